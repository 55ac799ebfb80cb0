/- Part 5 of what the proofs stand on: plain functions of the program, and that they are its functions. -/
import Derived.Test.YtmodnblfcikjlaaGreatM4
import Derived.KernelRfl
set_option linter.unusedVariables false
set_option linter.unusedSimpArgs false
namespace Go.GxYtmodnblfcikjlaaGreat
/-- What is left of a budget behind some terms. -/
def budL : List (Int → Int) → Int → Int
  | [], m => m
  | f :: fs, m => if f m < 0 then -1 else budL fs (f m)
noncomputable def budT : T → Int → Int := T.para fun t rs m => if m ≤ 0 ∨ 40 < t.name.length then -1 else budL rs (m - 1)
theorem budT_eq (t : T) (m : Int) : budT t m = if m ≤ 0 ∨ 40 < t.name.length then -1 else budL (t.kids.map budT) (m - 1) := congrFun (T.para_eq _ _) m
theorem budT_spec (t : T) : ∀ m, budT t m < 0 ∧ budT t m = -1 ∨ 0 ≤ budT t m ∧ budT t m = m - size t := by
  refine T.ind (P := fun t => ∀ m, budT t m < 0 ∧ budT t m = -1 ∨ 0 ≤ budT t m ∧ budT t m = m - size t) ?_ t
  intro t ih m
  have hL : ∀ l : List T, (∀ k ∈ l, k ∈ t.kids) → ∀ m, 0 ≤ m → (budL (l.map budT) m < 0 ∧ budL (l.map budT) m = -1 ∨ 0 ≤ budL (l.map budT) m ∧ budL (l.map budT) m = m - ((l.map size).sum : Nat)) := by
    intro l
    induction l with
    | nil => intro _ m hm; right; simp [budL]; exact hm
    | cons x l ihl =>
      intro hl m hm
      simp only [List.map_cons, budL, List.sum_cons]
      have h1 := ih x (hl x (List.mem_cons_self ..)) m
      by_cases h2 : budT x m < 0
      · rw [if_pos h2]; left; exact ⟨by omega, rfl⟩
      · rw [if_neg h2]
        have h3 := ihl (fun k hk => hl k (List.mem_cons_of_mem _ hk)) (budT x m) (by omega)
        omega
  rw [budT_eq, size_eq]
  split
  · left; exact ⟨by omega, rfl⟩
  · have := hL t.kids (fun _ h => h) (m - 1) (by omega)
    omega
/-- The greatest number of nodes on a way. -/
noncomputable def depT : T → Nat := T.para fun _ rs => rs.foldl max 0 + 1
theorem depT_eq (t : T) : depT t = (t.kids.map depT).foldl max 0 + 1 := T.para_eq _ _
theorem foldl_max_le (l : List Nat) : ∀ (a b : Nat), a ≤ b → (∀ x ∈ l, x ≤ b) → l.foldl max a ≤ b := by
  induction l with
  | nil => intro a b h _; exact h
  | cons x l ih => intro a b h hx; exact ih _ _ (Nat.max_le.2 ⟨h, hx x (List.mem_cons_self ..)⟩) fun y hy => hx y (List.mem_cons_of_mem _ hy)
theorem depT_le (t : T) : depT t ≤ size t := by
  refine T.ind (P := fun t => depT t ≤ size t) ?_ t
  intro t ih
  rw [depT_eq, size_eq]
  have : (t.kids.map depT).foldl max 0 ≤ (t.kids.map size).sum := by
    refine foldl_max_le _ _ _ (Nat.zero_le _) fun x hx => ?_
    obtain ⟨k, hk, rfl⟩ := List.mem_map.1 hx
    exact Nat.le_trans (ih k hk) (mem_le_sum _ _ hk)
  omega
def ltrI (c : Int) : Bool := decide (97 ≤ c ∧ c ≤ 122) || decide (65 ≤ c ∧ c ≤ 90)
def digI (c : Int) : Bool := decide (48 ≤ c ∧ c ≤ 57)
def partI (c : Int) : Bool := ltrI c || digI c || decide (c = 95) || decide (c = 35)
/-- A name. -/
def nameOk (l : List UInt8) : Bool := decide (0 < l.length) && decide (l.length ≤ 24) && ltrI ((l.getD 0 0).toNat : Int) && l.all fun c => partI (c.toNat : Int)
/-- The error of a node, of its kind, sort, number of kids, and whether its name is one. -/
def nodeK (k so : Int) (n : Nat) (ok : Bool) : Int :=
  if k = 1 ∨ k = 2 then (if so < 0 ∨ 5 < so ∨ 0 < n then 1 else if ok then 0 else 2)
  else if k = 3 then (if so ≠ 0 then 1 else if ok then (if 8 < n then 3 else 0) else 2)
  else 1
def nodeE (t : T) : Int := nodeK t.kind t.sort t.kids.length (nameOk t.name)
/-- The first error of a node, in preorder. -/
noncomputable def nodesE : T → Int := T.para fun t rs => rs.foldl thn (nodeE t)
theorem nodesE_eq (t : T) : nodesE t = (t.kids.map nodesE).foldl thn (nodeE t) := T.para_eq _ _
theorem thn_ne {x : Int} (h : x ≠ 0) (y : Int) : thn x y = x := if_neg h
theorem foldl_thn_ne (l : List Int) : ∀ {x : Int}, x ≠ 0 → l.foldl thn x = x := by
  induction l with
  | nil => intro x _; rfl
  | cons y l ih => intro x h; rw [List.foldl_cons, thn_ne h]; exact ih h
theorem foldl_thn_zero (l : List Int) (x : Int) : (x :: l).foldl thn 0 = l.foldl thn x := rfl
theorem nodesE_zero {t : T} (h : nodesE t = 0) : nodeE t = 0 ∧ (∀ k ∈ t.kids, nodesE k = 0) := by
  rw [nodesE_eq] at h
  by_cases h0 : nodeE t = 0
  · refine ⟨h0, ?_⟩
    rw [h0] at h
    generalize t.kids = l at *
    clear h0
    induction l with
    | nil => intro k hk; cases hk
    | cons x l ih =>
      rw [List.map_cons, foldl_thn_zero] at h
      by_cases hx : nodesE x = 0
      · rw [hx] at h
        intro k hk
        rcases List.mem_cons.1 hk with rfl | hk
        · exact hx
        · exact ih h k hk
      · rw [foldl_thn_ne _ hx] at h; exact absurd h hx
  · rw [foldl_thn_ne _ h0] at h; exact absurd h h0
/-- The error of a term. -/
noncomputable def validE (t : T) : Int := if nodesE t ≠ 0 then nodesE t else if 400 < size t ∨ 40 < depT t then 3 else 0
noncomputable instance : DecidableEq T := fun _ _ => Classical.propDecidable _
noncomputable def sameT (a b : T) : Bool := decide (a = b)
noncomputable def fewL : List T → Int → Bool
  | [], _ => true
  | x :: l, m => if budT x m < 0 then false else fewL l (budT x m)
theorem fewL_size : ∀ (l : List T) (m : Int), 0 ≤ m → fewL l m = true → ((l.map size).sum : Nat) ≤ m
  | [], m, hm, _ => by simpa using hm
  | x :: l, m, hm, h => by
    rw [fewL] at h
    by_cases hx : budT x m < 0
    · rw [if_pos hx] at h; exact absurd h (by decide)
    · rw [if_neg hx] at h
      have h1 := budT_spec x m
      have h2 := fewL_size l (budT x m) (by omega) h
      simp only [List.map_cons, List.sum_cons]
      omega
/-- The symbols: name, least and most number of kids, kind. -/
def symL : List (List UInt8 × Int × Int × Int) := [
  ([112, 97, 105, 114], 2, 2, 1),
  ([101, 110, 99], 2, 2, 1),
  ([97, 101, 110, 99], 2, 2, 1),
  ([112, 107], 1, 1, 1),
  ([115, 105, 103, 110], 2, 2, 1),
  ([104, 97, 115, 104], 1, 1, 1),
  ([120, 111, 114], 2, 8, 1),
  ([122, 101, 114, 111], 0, 0, 1),
  ([101, 120, 112], 2, 2, 1),
  ([109, 117, 108], 2, 8, 1),
  ([105, 110, 118], 1, 1, 1),
  ([111, 110, 101], 0, 0, 1),
  ([115, 107], 1, 1, 2),
  ([115, 104, 107], 2, 2, 2),
  ([110, 101, 119], 1, 8, 2),
  ([102, 115, 116], 1, 1, 3),
  ([115, 110, 100], 1, 1, 3),
  ([100, 101, 99], 2, 2, 3),
  ([97, 100, 101, 99], 2, 2, 3),
  ([111, 112, 101, 110], 2, 2, 3),
  ([114, 101, 97, 100], 1, 1, 3)]
/-- The first row of a name. -/
def symF (l : List (List UInt8 × Int × Int × Int)) (n : List UInt8) : Int × Int × Int := ((l.find? fun r => r.1 == n).map (·.2)).getD (0, 0, 0)
theorem symF_cons (r : List UInt8 × Int × Int × Int) (l : List (List UInt8 × Int × Int × Int)) (n : List UInt8) : symF (r :: l) n = if (r.1 == n) = true then r.2 else symF l n := by
  unfold symF
  rw [List.find?_cons]
  cases h : r.1 == n <;> simp
/-- Whether there is such a row. -/
def symH (l : List (List UInt8 × Int × Int × Int)) (n : List UInt8) : Bool := l.any fun r => r.1 == n
def fitR (l : List (List UInt8 × Int × Int × Int)) (n : List UInt8) (k : Int) : Bool := symH l n && decide ((symF l n).1 ≤ k) && decide (k ≤ (symF l n).2.1)
theorem fitR_cons (r : List UInt8 × Int × Int × Int) (l : List (List UInt8 × Int × Int × Int)) (n : List UInt8) (k : Int) :
    fitR (r :: l) n k = if (r.1 == n) = true then decide (r.2.1 ≤ k) && decide (k ≤ r.2.2.1) else fitR l n k := by
  unfold fitR
  rw [symF_cons]
  unfold symH
  rw [List.any_cons]
  cases h : r.1 == n <;> simp

def nPair : List UInt8 := [112, 97, 105, 114]
def nEnc : List UInt8 := [101, 110, 99]
def nAenc : List UInt8 := [97, 101, 110, 99]
def nPk : List UInt8 := [112, 107]
def nSign : List UInt8 := [115, 105, 103, 110]
def nXor : List UInt8 := [120, 111, 114]
def nZero : List UInt8 := [122, 101, 114, 111]
def nExp : List UInt8 := [101, 120, 112]
def nMul : List UInt8 := [109, 117, 108]
def nInv : List UInt8 := [105, 110, 118]
def nOne : List UInt8 := [111, 110, 101]
def nSk : List UInt8 := [115, 107]
def nShk : List UInt8 := [115, 104, 107]
def nNew : List UInt8 := [110, 101, 119]
def nFst : List UInt8 := [102, 115, 116]
def nSnd : List UInt8 := [115, 110, 100]
def nDec : List UInt8 := [100, 101, 99]
def nAdec : List UInt8 := [97, 100, 101, 99]
def nOpen : List UInt8 := [111, 112, 101, 110]
def nRead : List UInt8 := [114, 101, 97, 100]
def zT : T := .mk 0 [] 0 []
def kid (t : T) (i : Nat) : T := t.kids.getD i zT
def apT (n : List UInt8) (l : List T) : T := .mk 3 n 0 l
def isN (t : T) (n : List UInt8) : Bool := t.kind == 3 && t.name == n
/-- A symbol: least, most, kind. -/
def symOf (n : List UInt8) : Int × Int × Int := ((symL.find? fun r => r.1 == n).map (·.2)).getD (0, 0, 0)
/-- Kids of a private symbol that are of the wrong sort. -/
def privB (t : T) : Bool :=
  if t.name = nNew then decide ((kid t 0).kind ≠ 2)
  else if t.name = nSk ∨ t.name = nShk then t.kids.any fun k => decide (k.kind = 3) || decide (k.sort ≠ 1) else false
def chkK (t : T) : Int :=
  if t.kind ≠ 3 then 0 else if (symOf t.name).2.2 = 0 then 10 else if (t.kids.length : Int) < (symOf t.name).1 ∨ (symOf t.name).2.1 < (t.kids.length : Int) then 6 else if privB t then 10 else 0
noncomputable def chkE : T → Int := T.para fun t rs => if t.kind ≠ 3 then 0 else rs.foldl thn (chkK t)
theorem chkE_eq (t : T) : chkE t = if t.kind ≠ 3 then 0 else (t.kids.map chkE).foldl thn (chkK t) := T.para_eq _ _
noncomputable def vthE (t : T) : Int := thn (validE t) (chkE t)
noncomputable def fitsD (t : T) : Bool :=
  if t.name = nFst ∨ t.name = nSnd then isN (kid t 0) nPair
  else if t.name = nDec then isN (kid t 0) nEnc && sameT (kid (kid t 0) 1) (kid t 1)
  else if t.name = nAdec then isN (kid t 0) nAenc && isN (kid (kid t 0) 1) nPk && sameT (kid (kid (kid t 0) 1) 0) (kid t 1)
  else if t.name = nOpen then isN (kid t 0) nSign && isN (kid t 1) nPk && sameT (kid (kid t 0) 1) (kid (kid t 1) 0)
  else if t.name = nRead then isN (kid t 0) nSign else false
noncomputable def desT (t : T) : T := if fitsD t then kid (kid t 0) (if t.name = nSnd then 1 else 0) else t

/-- Exponents: the symbols, products. -/
def specT (t : T) : Bool := t.kind == 3 && (t.name == nMul || t.name == nInv || t.name == nOne)
abbrev Pw := T × Int
noncomputable def insP : List Pw → T → Int → List Pw
  | [], t, n => [(t, n)]
  | (x, m) :: l, t, n => if cmpT t x = -1 then (t, n) :: (x, m) :: l else if cmpT t x = 0 then (if m + n = 0 then l else (x, m + n) :: l) else (x, m) :: insP l t n
def arK (t : T) : Bool := !(t.name == nOne && t.kids.length != 0 || t.name == nInv && t.kids.length != 1 || t.name == nMul && decide (t.kids.length < 2))
noncomputable def arT : T → Bool := T.para fun t rs => !specT t || (arK t && rs.all id)
theorem arT_eq (t : T) : arT t = (!specT t || (arK t && (t.kids.map arT).all id)) := T.para_eq _ _
def sgnP (t : T) (n : Int) : Int := if t.name = nInv then -n else n
noncomputable def colP : T → List Pw → Int → List Pw := T.para fun t rs l n => if specT t then rs.foldl (fun l f => f l (sgnP t n)) l else insP l t n
theorem colP_eq (t : T) (l : List Pw) (n : Int) : colP t l n = if specT t then (t.kids.map colP).foldl (fun l f => f l (sgnP t n)) l else insP l t n := by
  have h : colP t = fun l n => if specT t then (t.kids.map colP).foldl (fun l f => f l (sgnP t n)) l else insP l t n := T.para_eq _ _
  rw [h]
noncomputable def ofP (t : T) : List Pw × Int :=
  if validE t ≠ 0 then ([], validE t) else if arT t = false then ([], 6) else if 200 < (colP t [] 1).length then ([], 3) else (colP t [] 1, 0)
noncomputable def pvK (q : Option T) (p : Pw) : Int :=
  if validE p.1 ≠ 0 then validE p.1 else if specT p.1 then 1 else if p.2 = 0 ∨ p.2 < -1000 ∨ 1000 < p.2 then 7 else match q with | some x => if 0 ≤ cmpT x p.1 then 5 else 0 | none => 0
noncomputable def pvL : Option T → List Pw → Int
  | _, [] => 0
  | q, p :: l => thn (pvK q p) (pvL (some p.1) l)
noncomputable def pvalE (l : List Pw) : Int := if 200 < l.length then 3 else pvL none l
def posL (l : List Pw) : List T := l.flatMap fun p => List.replicate p.2.toNat p.1
def negL (l : List Pw) : List T := l.flatMap fun p => List.replicate (-p.2).toNat (apT nInv [p.1])
def outP (o : List T) : T := if o.length = 0 then apT nOne [] else if o.length = 1 then o.getD 0 zT else apT nMul o
noncomputable def termP (l : List Pw) : T × Int :=
  if pvalE l ≠ 0 then (zT, pvalE l) else if 8 < (posL l ++ negL l).length then (zT, 3)
  else if validE (outP (posL l ++ negL l)) ≠ 0 then (zT, validE (outP (posL l ++ negL l))) else (outP (posL l ++ negL l), 0)
def farP (l : List Pw) : Bool := l.any fun p => decide (p.2 < -1000) || decide (1000 < p.2)
noncomputable def mulL (a b : List Pw) : List Pw := b.foldl (fun l p => insP l p.1 p.2) a
noncomputable def mulP (a b : List Pw) : List Pw × Int :=
  if pvalE a ≠ 0 then ([], pvalE a) else if pvalE b ≠ 0 then ([], pvalE b) else if farP (mulL a b) then ([], 7) else if 200 < (mulL a b).length then ([], 3) else (mulL a b, 0)

/-- Sums. -/
noncomputable def plusX : List T → List T → List T
  | [], b => b
  | x :: a, [] => x :: a
  | x :: a, y :: b => if cmpT x y = -1 then x :: plusX a (y :: b) else if cmpT x y = 1 then y :: plusX (x :: a) b else plusX a b
termination_by a b => a.length + b.length
noncomputable def sumsX : T → List T := T.para fun t rs => if isN t nZero && t.kids.isEmpty then [] else if isN t nXor then rs.foldl plusX [] else [t]
theorem sumsX_eq (t : T) : sumsX t = if isN t nZero && t.kids.isEmpty then [] else if isN t nXor then (t.kids.map sumsX).foldl plusX [] else [t] := T.para_eq _ _
noncomputable def rightE (l : List T) : Int := if 200 < l.length then 3 else (l.map validE).foldl thn 0
noncomputable def partsX (l : List T) : List T := (l.map sumsX).foldl plusX []
def outX (o : List T) : T := if o.length = 0 then apT nZero [] else if o.length = 1 then o.getD 0 zT else apT nXor o
noncomputable def sumX (l : List T) : T × Int :=
  if rightE l ≠ 0 then (zT, rightE l) else if validE (outX (partsX l)) ≠ 0 then (zT, 3) else (outX (partsX l), 0)

/-- Powers. -/
noncomputable def expT (b : T) (l : List Pw) : T × Int :=
  if l.length = 0 then (b, 0) else if (termP l).2 ≠ 0 then (zT, (termP l).2) else (apT nExp [b, (termP l).1], 0)
noncomputable def raiT (b e : T) : T × Int :=
  if (ofP e).2 ≠ 0 then (zT, (ofP e).2)
  else if isN b nExp then
    (if (ofP (kid b 1)).2 ≠ 0 then (zT, (ofP (kid b 1)).2)
     else if (mulP (ofP (kid b 1)).1 (ofP e).1).2 ≠ 0 then (zT, (mulP (ofP (kid b 1)).1 (ofP e).1).2)
     else expT (kid b 0) (mulP (ofP (kid b 1)).1 (ofP e).1).1)
  else expT b (ofP e).1
def isD (n : List UInt8) : Bool := n == nFst || n == nSnd || n == nDec || n == nAdec || n == nOpen || n == nRead
noncomputable def prodT (t : T) : T × Int := if (ofP t).2 ≠ 0 then (zT, (ofP t).2) else termP (ofP t).1
noncomputable def finN (t : T) : T × Int :=
  if isD t.name then (desT t, 0) else if t.name = nXor then sumX t.kids
  else if t.name = nMul ∨ t.name = nInv ∨ t.name = nOne then prodT t
  else if t.name = nExp then raiT (kid t 0) (kid t 1) else (t, 0)
noncomputable def norT : T → T × Int := T.para fun t rs =>
  if t.kind ≠ 3 then (t, 0) else if (rs.map (·.2)).foldl thn 0 ≠ 0 then (zT, (rs.map (·.2)).foldl thn 0) else finN (apT t.name (rs.map (·.1)))
theorem norT_eq (t : T) : norT t = if t.kind ≠ 3 then (t, 0) else if ((t.kids.map norT).map (·.2)).foldl thn 0 ≠ 0 then (zT, ((t.kids.map norT).map (·.2)).foldl thn 0) else finN (apT t.name ((t.kids.map norT).map (·.1))) := T.para_eq _ _
noncomputable def normalT (t : T) : T × Int :=
  if vthE t ≠ 0 then (zT, vthE t) else if (norT t).2 ≠ 0 then (zT, (norT t).2) else if validE (norT t).1 ≠ 0 then (zT, validE (norT t).1) else norT t
/-- Whether all kids of a private symbol are of the right sort. -/
def agB (l : List T) : Bool := l.all fun k => !(k.kind == 3) && !(k.sort != 1)
def agentsB (t : T) : Bool := if t.name = nNew then (kid t 0).kind == 2 else agB t.kids
theorem agB_cons (k : T) (l : List T) : agB (k :: l) = ((!(k.kind == 3) && !(k.sort != 1)) && agB l) := rfl
end Go.GxYtmodnblfcikjlaaGreat
namespace Go.AmYtmodnblfcikjlaaGreat
open Go Go.GxYtmodnblfcikjlaaGreat Go.Lib
theorem number_ev (a b : Int) : Ev (fun m _ => ref01_number m a b) (sgn a b) := by
  refine Ev.succ ?_
  simp only [ref01_number_e, ref01_number_s0]
  unfold sgn
  refine Ev.ite (fun h => ?_) fun h => ?_
  · exact Ev.ret (by rw [if_pos (ilt_t.1 h)])
  · rw [ilt_f] at h
    refine Ev.ite (fun h' => ?_) fun h' => ?_
    · rw [ilt_t] at h'
      exact Ev.ret (by rw [if_neg (by omega), if_pos h'])
    · rw [ilt_f] at h'
      exact Ev.ret (by rw [if_neg (by omega), if_neg (by omega)])
theorem sum_drop {l : List T} {i : Nat} {x : T} (h : l.drop i = x :: l.drop (i + 1)) : ((l.drop i).map size).sum = size x + ((l.drop (i + 1)).map size).sum := by
  rw [h, List.map_cons, List.sum_cons]
theorem rsize_ev (t : T) : size t ≤ 1000000000 → Ev (fun m _ => ref01_Size m t) (size t : Int) := by
  induction t using T.ind with
  | h t ih =>
    intro hs
    refine Ev.succ ?_
    simp only [ref01_Size_e, ref01_Size_s0]
    have hl := kids_lt t
    have he := size_eq t
    have key := ev_list (P := fun i => ∀ acc : Nat, acc + ((t.kids.drop i).map size).sum ≤ 1000000000 → Ev (fun m k => ref01_Size_L m (ref01_Size m) k acc i t.kind t.name t.sort t.kids) ((acc + ((t.kids.drop i).map size).sum : Nat) : Int)) t.kids (by omega)
      (fun hc acc _ => by
        refine Ev.loop ?_
        simp only [ref01_Size_l1, ref01_Size_s1]
        refine Ev.cf hc ?_
        exact Ev.ret (by simp))
      (fun i x hx hd hc hg hi hP acc ha => by
        rw [sum_drop hd] at ha ⊢
        refine Ev.loop ?_
        simp only [ref01_Size_l1, ref01_Size_s1]
        refine Ev.ct hc (Ev.some hg ?_)
        rw [re_eq]
        refine Ev.bind (ih x (List.mem_of_getElem? hx) (by omega)) ?_
        rw [hi, iadd_nat, iw_id (by omega)]
        refine (hP (acc + size x) (by omega)).res (by congr 1; omega))
    refine Ev.diag (L := fun m k => ref01_Size_L m (ref01_Size m) k 1 0 t.kind t.name t.sort t.kids) ?_
    refine (key 0 (Nat.zero_le _) 1 (by simp; omega)).res (by rw [List.drop_zero, he])
theorem imax_nat (a b : Nat) : imax (a : Int) (b : Int) = ((max a b : Nat) : Int) := by unfold imax; split <;> omega
theorem sign_ev (a b : Int) : Ev (fun m _ => term_sign m a b) (sgn a b) := by
  refine Ev.succ ?_
  simp only [term_sign_e, term_sign_s0]
  unfold sgn
  refine Ev.ite (fun h => ?_) fun h => ?_
  · exact Ev.ret (by rw [if_pos (ilt_t.1 h)])
  · rw [ilt_f] at h
    refine Ev.ite (fun h' => ?_) fun h' => ?_
    · rw [ilt_t] at h'
      exact Ev.ret (by rw [if_neg (by omega), if_pos h'])
    · rw [ilt_f] at h'
      exact Ev.ret (by rw [if_neg (by omega), if_neg (by omega)])
theorem tsize_ev (t : T) : size t ≤ 1000000000 → Ev (fun m _ => term_Size m t) (size t : Int) := by
  induction t using T.ind with
  | h t ih =>
    intro hs
    refine Ev.succ ?_
    simp only [term_Size_e, term_Size_s0]
    have hl := kids_lt t
    have he := size_eq t
    have key := ev_list (P := fun i => ∀ acc : Nat, acc + ((t.kids.drop i).map size).sum ≤ 1000000000 → Ev (fun m k => term_Size_L m (term_Size m) k acc t.kids t.kids.length i) ((acc + ((t.kids.drop i).map size).sum : Nat) : Int)) t.kids (by omega)
      (fun hc acc _ => by
        refine Ev.loop ?_
        simp only [term_Size_l1, term_Size_s1]
        refine Ev.cf hc ?_
        exact Ev.ret (by simp))
      (fun i x hx hd hc hg hi hP acc ha => by
        rw [sum_drop hd] at ha ⊢
        refine Ev.loop ?_
        simp only [term_Size_l1, term_Size_s1]
        refine Ev.ct hc (Ev.some hg ?_)
        rw [re_eq]
        refine Ev.bind (ih x (List.mem_of_getElem? hx) (by omega)) ?_
        rw [hi, iadd_nat, iw_id (by omega)]
        refine (hP (acc + size x) (by omega)).res (by congr 1; omega))
    refine Ev.diag (L := fun m k => term_Size_L m (term_Size m) k 1 t.kids t.kids.length 0) ?_
    refine (key 0 (Nat.zero_le _) 1 (by simp; omega)).res (by rw [List.drop_zero, he])
theorem rdepth_ev (t : T) : size t ≤ 1000000000 → Ev (fun m _ => ref01_Depth m t) (depT t : Int) := by
  induction t using T.ind with
  | h t ih =>
    intro hs
    refine Ev.succ ?_
    simp only [ref01_Depth_e, ref01_Depth_s0]
    have hl := kids_lt t
    have he := size_eq t
    have key := ev_list (P := fun i => ∀ acc : Nat, acc ≤ 1000000000 → Ev (fun m k => ref01_Depth_L m (ref01_Depth m) k acc i t.kind t.name t.sort t.kids) ((((t.kids.drop i).map depT).foldl max acc + 1 : Nat) : Int)) t.kids (by omega)
      (fun hc acc _ => by
        refine Ev.loop ?_
        simp only [ref01_Depth_l1, ref01_Depth_s1]
        refine Ev.cf hc ?_
        rw [show iadd (acc : Int) 1 = ((acc + 1 : Nat) : Int) by unfold iadd; omega, iw_id (by omega)]
        exact Ev.ret (by simp))
      (fun i x hx hd hc hg hi hP acc ha => by
        refine Ev.loop ?_
        simp only [ref01_Depth_l1, ref01_Depth_s1]
        refine Ev.ct hc (Ev.some hg ?_)
        rw [re_eq]
        have hm := List.mem_of_getElem? hx
        have h1 := kid_lt t x hm
        have h2 := depT_le x
        refine Ev.bind (ih x hm (by omega)) ?_
        rw [hi, imax_nat]
        refine (hP (max acc (depT x)) (by omega)).res ?_
        rw [hd, List.map_cons, List.foldl_cons])
    refine Ev.diag (L := fun m k => ref01_Depth_L m (ref01_Depth m) k 0 0 t.kind t.name t.sort t.kids) ?_
    refine (key 0 (Nat.zero_le _) 0 (by omega)).res (by rw [List.drop_zero, depT_eq])
/-- The order. -/
theorem cmpL_nil (fs : List (T → Int)) : cmpL fs [] = 0 := by cases fs <;> rfl
theorem cmpL_cons {l m : List T} {i : Nat} {x y : T} (h1 : l.drop i = x :: l.drop (i + 1)) (h2 : m.drop i = y :: m.drop (i + 1)) : cmpL ((l.drop i).map cmpT) (m.drop i) = thn (cmpT x y) (cmpL ((l.drop (i + 1)).map cmpT) (m.drop (i + 1))) := by
  rw [h1, h2, List.map_cons]; rfl
theorem get_drop {l : List T} {i : Nat} {y : T} (h : l[i]? = some y) : l.drop i = y :: l.drop (i + 1) := by
  obtain ⟨hlt, rfl⟩ := List.getElem?_eq_some_iff.1 h
  exact List.drop_eq_getElem_cons hlt
theorem slt_spec (a b : List UInt8) : slt a b = decide (compareBytes a b = -1) := bytesLess_iff a b
theorem xor_spec (a b : List UInt8) : xor' (slt a b) (seq' a b) = decide (compareBytes a b ≠ 1) := by
  rw [slt_spec]
  unfold xor' seq'
  rcases cmpB_rng a b with h | h | h
  · rw [h]; rfl
  · have := cmpB_zero a b h
    subst this
    rw [h]; simp
  · have : (a == b) = false := by
      rw [beq_eq_false_iff_ne]; intro he; subst he; rw [cmpB_self] at h; omega
    rw [h, this]; rfl
theorem rcompare_ev (a : T) : size a ≤ 1000000000 → ∀ b, size b ≤ 1000000000 → Ev (fun m _ => ref01_Compare m a b) (cmpT a b) := by
  induction a using T.ind with
  | h a ih =>
    intro ha b hb
    refine Ev.succ ?_
    simp only [ref01_Compare_e, ref01_Compare_s0, re_eq]
    have hla := kids_lt a
    have hlb := kids_lt b
    rw [cmpT_eq]
    unfold cmpK
    refine Ev.bind (rsize_ev a ha) (Ev.bind (rsize_ev b hb) (Ev.bind (number_ev _ _) ?_))
    refine Ev.ite (fun h => ?_) fun h => ?_
    · rw [bnt, ieq_f] at h
      exact Ev.ret (by rw [thn_ne (by rw [thn_ne h]; exact h), thn_ne h])
    rw [bnf, ieq_t] at h
    rw [h, show ∀ y, thn 0 y = y from fun y => rfl]
    refine Ev.bind (number_ev _ _) ?_
    refine Ev.ite (fun h => ?_) fun h => ?_
    · rw [bnt, ieq_f] at h
      exact Ev.ret (by rw [thn_ne (by rw [thn_ne h]; exact h), thn_ne h])
    rw [bnf, ieq_t] at h
    rw [h, show ∀ y, thn 0 y = y from fun y => rfl]
    refine Ev.ite (fun h => ?_) fun h => ?_
    · rw [slt_spec, decide_eq_true_iff] at h
      exact Ev.ret (by rw [h]; rfl)
    rw [slt_spec, decide_eq_false_iff_not] at h
    refine Ev.ite (fun h' => ?_) fun h' => ?_
    · rw [bnt, xor_spec, decide_eq_false_iff_not, Decidable.not_not] at h'
      exact Ev.ret (by rw [h']; rfl)
    rw [bnf, xor_spec, decide_eq_true_iff] at h'
    have h0 : compareBytes a.name b.name = 0 := by have := cmpB_rng a.name b.name; omega
    rw [h0, show ∀ y, thn 0 y = y from fun y => rfl]
    refine Ev.bind (number_ev _ _) ?_
    refine Ev.ite (fun h => ?_) fun h => ?_
    · rw [bnt, ieq_f] at h
      exact Ev.ret (by rw [thn_ne (by rw [thn_ne h]; exact h), thn_ne h])
    rw [bnf, ieq_t] at h
    rw [h, show ∀ y, thn 0 y = y from fun y => rfl]
    refine Ev.bind (number_ev _ _) ?_
    refine Ev.ite (fun h => ?_) fun h => ?_
    · rw [bnt, ieq_f] at h
      exact Ev.ret (by rw [thn_ne h])
    rw [bnf, ieq_t] at h
    rw [h, show ∀ y, thn 0 y = y from fun y => rfl]
    have hlen : a.kids.length = b.kids.length := by have := sgn_zero h; omega
    have key := ev_list (P := fun i => Ev (fun m k => ref01_Compare_L m (ref01_Compare m) k i a.kind a.name a.sort a.kids b.kind b.name b.sort b.kids) (cmpL ((a.kids.drop i).map cmpT) (b.kids.drop i))) a.kids (by omega)
      (fun hc => by
        refine Ev.loop ?_
        simp only [ref01_Compare_l1, ref01_Compare_s1]
        refine Ev.cf hc ?_
        exact Ev.ret (by rw [hlen, List.drop_length, cmpL_nil]))
      (fun i x hx hd hc hg hi hP => by
        refine Ev.loop ?_
        simp only [ref01_Compare_l1, ref01_Compare_s1, re_eq]
        have hib : i < b.kids.length := by have := (List.getElem?_eq_some_iff.1 hx).1; omega
        have hy := List.getElem?_eq_getElem hib
        have hmx := List.mem_of_getElem? hx
        have h1 := kid_lt a x hmx
        have h2 := kid_lt b _ (List.mem_of_getElem? hy)
        refine Ev.ct hc (Ev.some hg (Ev.some (by rw [lget_nat]; exact hy) ?_))
        rw [cmpL_cons hd (get_drop hy)]
        refine Ev.bind (ih x hmx (by omega) _ (by omega)) ?_
        refine Ev.ite (fun h => ?_) fun h => ?_
        · rw [bnt, ieq_f] at h
          exact Ev.ret (by rw [thn_ne h])
        · rw [bnf, ieq_t] at h
          rw [h, hi]
          exact hP)
    refine Ev.diag (L := fun m k => ref01_Compare_L m (ref01_Compare m) k 0 a.kind a.name a.sort a.kids b.kind b.name b.sort b.kids) ?_
    exact (key 0 (Nat.zero_le _)).res (by rw [List.drop_zero, List.drop_zero])
theorem strcmp_ev (a b : List UInt8) : Ev (fun m _ => strings_Compare 0 a b) (compareBytes a b) := Ev.pure _
theorem tcompare_ev (a : T) : size a ≤ 1000000000 → ∀ b, size b ≤ 1000000000 → Ev (fun m _ => term_Compare m a b) (cmpT a b) := by
  induction a using T.ind with
  | h a ih =>
    intro ha b hb
    refine Ev.succ ?_
    simp only [term_Compare_e, term_Compare_s0, re_eq]
    have hla := kids_lt a
    have hlb := kids_lt b
    rw [cmpT_eq]
    unfold cmpK
    have stop : ∀ c : Int, c ≠ 0 → ∀ i : Int, Ev (fun m k => term_Compare_L m (term_Compare m) k c i a.kind a.name a.sort a.kids b.kind b.name b.sort b.kids) c := by
      intro c hc i
      refine Ev.loop ?_
      simp only [term_Compare_l1, term_Compare_s1]
      exact Ev.cf (ieq_f.2 hc) (Ev.pure c)
    have key : a.kids.length = b.kids.length → ∀ i, i ≤ a.kids.length → Ev (fun m k => term_Compare_L m (term_Compare m) k 0 i a.kind a.name a.sort a.kids b.kind b.name b.sort b.kids) (cmpL ((a.kids.drop i).map cmpT) (b.kids.drop i)) := fun hlen => ev_list a.kids (by omega)
      (fun hc => by
        refine Ev.loop ?_
        simp only [term_Compare_l1, term_Compare_s1]
        refine Ev.ct rfl (Ev.cf hc ?_)
        exact Ev.ret (by rw [hlen, List.drop_length, cmpL_nil]))
      (fun i x hx hd hc hg hi hP => by
        refine Ev.loop ?_
        simp only [term_Compare_l1, term_Compare_s1, re_eq]
        have hib : i < b.kids.length := by have := (List.getElem?_eq_some_iff.1 hx).1; omega
        have hy := List.getElem?_eq_getElem hib
        have hmx := List.mem_of_getElem? hx
        have h1 := kid_lt a x hmx
        have h2 := kid_lt b _ (List.mem_of_getElem? hy)
        refine Ev.ct rfl (Ev.ct hc (Ev.some hg (Ev.some (by rw [lget_nat]; exact hy) ?_)))
        rw [cmpL_cons hd (get_drop hy)]
        refine Ev.bind (ih x hmx (by omega) _ (by omega)) ?_
        rw [hi]
        by_cases h : cmpT x b.kids[i] = 0
        · rw [h]; exact hP
        · rw [thn_ne h]; exact stop _ h _)
    have fin : ∀ c : Int, (c = 0 → a.kids.length = b.kids.length) → Ev (fun m k => term_Compare_L m (term_Compare m) m c 0 a.kind a.name a.sort a.kids b.kind b.name b.sort b.kids) (thn c (cmpL (a.kids.map cmpT) b.kids)) := by
      intro c hc
      refine Ev.diag (L := fun m k => term_Compare_L m (term_Compare m) k c 0 a.kind a.name a.sort a.kids b.kind b.name b.sort b.kids) ?_
      by_cases h : c = 0
      · subst h
        exact (key (hc rfl) 0 (Nat.zero_le _)).res (by rw [List.drop_zero, List.drop_zero]; rfl)
      · rw [thn_ne h]; exact stop c h 0
    refine Ev.bind (tsize_ev a ha) (Ev.bind (tsize_ev b hb) (Ev.bind (sign_ev _ _) ?_))
    have z0 : ∀ y, thn 0 y = y := fun y => rfl
    by_cases h1 : sgn (size a : Int) (size b) = 0
    · rw [h1, z0]
      refine Ev.ct rfl (Ev.bind (sign_ev _ _) ?_)
      by_cases h2 : sgn a.kind b.kind = 0
      · rw [h2, z0]
        refine Ev.ct rfl (Ev.bind (strcmp_ev _ _) ?_)
        by_cases h3 : compareBytes a.name b.name = 0
        · rw [h3, z0]
          refine Ev.ct rfl (Ev.bind (sign_ev _ _) ?_)
          by_cases h4 : sgn a.sort b.sort = 0
          · rw [h4, z0]
            refine Ev.ct rfl (Ev.bind (sign_ev _ _) ?_)
            exact fin _ fun h => by have := sgn_zero h; omega
          · rw [thn_ne h4]
            refine Ev.cf (ieq_f.2 h4) ?_
            exact fin _ fun h => absurd h h4
        · rw [thn_ne h3]
          refine Ev.cf (ieq_f.2 h3) (Ev.cf (ieq_f.2 h3) ?_)
          exact fin _ fun h => absurd h h3
      · rw [thn_ne h2]
        refine Ev.cf (ieq_f.2 h2) (Ev.cf (ieq_f.2 h2) (Ev.cf (ieq_f.2 h2) ?_))
        exact fin _ fun h => absurd h h2
    · rw [thn_ne h1]
      refine Ev.cf (ieq_f.2 h1) (Ev.cf (ieq_f.2 h1) (Ev.cf (ieq_f.2 h1) (Ev.cf (ieq_f.2 h1) ?_)))
      exact fin _ fun h => absurd h h1
theorem ieq_cmp (a b : T) : ieq (cmpT a b) 0 = sameT a b := by
  unfold sameT
  rw [Bool.eq_iff_iff, ieq_t, decide_eq_true_iff]
  exact cmpT_iff a b
theorem rsame_ev (a b : T) (ha : size a ≤ 1000000000) (hb : size b ≤ 1000000000) : Ev (fun m _ => ref01_Same m a b) (sameT a b) := by
  refine Ev.succ ?_
  simp only [ref01_Same_e, ref01_Same_s0, re_eq]
  refine Ev.bind (rcompare_ev a ha b hb) ?_
  exact Ev.ret (ieq_cmp a b)
theorem tsame_ev (a b : T) (ha : size a ≤ 1000000000) (hb : size b ≤ 1000000000) : Ev (fun m _ => theory_same m a b) (sameT a b) := by
  refine Ev.succ ?_
  simp only [theory_same_e, theory_same_s0, re_eq]
  refine Ev.bind (tcompare_ev a ha b hb) ?_
  exact Ev.ret (ieq_cmp a b)
end Go.AmYtmodnblfcikjlaaGreat
namespace Go.AmYtmodnblfcikjlaaGreat
open Go Go.GxYtmodnblfcikjlaaGreat Go.Lib
theorem ieq_dec (a b : Int) : ieq a b = decide (a = b) := by rw [Bool.eq_iff_iff, ieq_t, decide_eq_true_iff]
theorem letter_ev (c : Int) : Ev (fun m _ => ref01_letter m c) (ltrI c) := by
  refine Ev.succ ?_
  simp only [ref01_letter_e, ref01_letter_s0]
  refine (Ev.pure (ltrI c)).congr fun m k => ?_
  unfold ltrI ile
  by_cases h1 : 97 ≤ c <;> by_cases h2 : c ≤ 122 <;> by_cases h3 : 65 ≤ c <;> by_cases h4 : c ≤ 90 <;> simp [h1, h2, h3, h4]
theorem digit_ev (c : Int) : Ev (fun m _ => ref01_digit m c) (digI c) := by
  refine Ev.succ ?_
  simp only [ref01_digit_e, ref01_digit_s0]
  refine (Ev.pure (digI c)).congr fun m k => ?_
  unfold digI ile
  by_cases h1 : 48 ≤ c <;> by_cases h2 : c ≤ 57 <;> simp [h1, h2]
theorem part_ev (c : Int) : Ev (fun m _ => term_part m c) (partI c) := by
  refine Ev.succ ?_
  simp only [term_part_e, term_part_s0]
  refine (Ev.pure (partI c)).congr fun m k => ?_
  simp only [ieq_dec]
  unfold partI ltrI digI ile
  by_cases h1 : 97 ≤ c <;> by_cases h2 : c ≤ 122 <;> by_cases h3 : 65 ≤ c <;> by_cases h4 : c ≤ 90 <;> by_cases h5 : 48 ≤ c <;> by_cases h6 : c ≤ 57 <;> by_cases h7 : c = 95 <;> by_cases h8 : c = 35 <;> simp [h1, h2, h3, h4, h5, h6, h7, h8]
theorem isName_ev (l : List UInt8) : Ev (fun m _ => ref01_IsName m l) (nameOk l) := by
  refine Ev.succ ?_
  simp only [ref01_IsName_e, ref01_IsName_s0]
  cases l with
  | nil => exact Ev.ct rfl (Ev.pure _)
  | cons c r =>
    refine Ev.cf (ieq_f.2 (by simp; omega)) ?_
    refine Ev.ite (fun h => ?_) fun h => ?_
    · rw [ilt_t] at h
      refine Ev.ret ?_
      unfold nameOk
      rw [decide_eq_false (show ¬ (c :: r).length ≤ 24 by omega)]
      simp
    rw [ilt_f] at h
    refine Ev.some (lget_zero _) (Ev.bind (letter_ev _) ?_)
    have hn : nameOk (c :: r) = (ltrI (c.toNat : Int) && (c :: r).all fun c => partI (c.toNat : Int)) := by
      unfold nameOk
      rw [decide_eq_true (show (c :: r).length ≤ 24 by omega)]
      simp
    rw [hn]
    cases hc : ltrI (c.toNat : Int) with
    | false => exact Ev.ct rfl (Ev.pure _)
    | true =>
      refine Ev.cf rfl ?_
      have key := ev_list (P := fun i => Ev (fun m k => ref01_IsName_L m k (c :: r) i) (((c :: r).drop i).all fun c => partI (c.toNat : Int))) (c :: r) (by omega)
        (fun hc => by
          refine Ev.loop ?_
          simp only [ref01_IsName_l1, ref01_IsName_s1]
          refine Ev.cf hc (Ev.ret ?_)
          rw [List.drop_length]; rfl)
        (fun i x hx hd hc hg hi hP => by
          refine Ev.loop ?_
          simp only [ref01_IsName_l1, ref01_IsName_s1]
          refine Ev.ct hc (Ev.some hg (Ev.bind (letter_ev _) ?_))
          rw [hd, List.all_cons, hi]
          cases h1 : ltrI (x.toNat : Int) with
          | true => exact Ev.cf rfl (hP.res (by simp [partI, h1]))
          | false =>
            refine Ev.ct rfl (Ev.some hg (Ev.bind (digit_ev _) ?_))
            cases h2 : digI (x.toNat : Int) with
            | true => exact Ev.cf rfl (hP.res (by simp [partI, h2]))
            | false =>
              refine Ev.ct rfl (Ev.some hg ?_)
              by_cases h3 : (x.toNat : Int) = 95
              · exact Ev.cf (bnf.2 (ieq_t.2 h3)) (hP.res (by simp [partI, h3]))
              · refine Ev.ct (bnt.2 (ieq_f.2 h3)) (Ev.some hg ?_)
                by_cases h4 : (x.toNat : Int) = 35
                · exact Ev.cf (bnf.2 (ieq_t.2 h4)) (hP.res (by simp [partI, h4]))
                · exact Ev.ct (bnt.2 (ieq_f.2 h4)) (Ev.ret (by unfold partI; rw [h1, h2, decide_eq_false h3, decide_eq_false h4]; rfl)))
      refine Ev.diag (L := fun m k => ref01_IsName_L m k (c :: r) 0) ?_
      exact (key 0 (Nat.zero_le _)).res (by rw [List.drop_zero]; rfl)
theorem ltr_part (c : Int) : (partI c && (!(decide (48 ≤ c) && decide (c ≤ 57)) && (!(decide (c = 95)) && !(decide (c = 35))))) = ltrI c := by
  unfold partI digI
  cases h : ltrI c with
  | true =>
    unfold ltrI at h
    rw [Bool.or_eq_true, decide_eq_true_iff, decide_eq_true_iff] at h
    rw [decide_eq_false (show ¬ (c = 95) by omega), decide_eq_false (show ¬ (c = 35) by omega)]
    have : (decide (48 ≤ c) && decide (c ≤ 57)) = false := by
      rw [Bool.and_eq_false_iff, decide_eq_false_iff_not, decide_eq_false_iff_not]; omega
    rw [this]; rfl
  | false =>
    by_cases h1 : 48 ≤ c <;> by_cases h2 : c ≤ 57 <;> by_cases h3 : c = 95 <;> by_cases h4 : c = 35 <;> simp [h1, h2, h3, h4]
theorem tisName_ev (l : List UInt8) : Ev (fun m _ => term_isName m l) (nameOk l) := by
  refine Ev.succ ?_
  simp only [term_isName_e, term_isName_s0]
  cases l with
  | nil => exact Ev.ct rfl (Ev.pure _)
  | cons c r =>
    refine Ev.cf rfl ?_
    refine Ev.ite (fun h => ?_) fun h => ?_
    · rw [ilt_t] at h
      refine Ev.ret ?_
      unfold nameOk
      rw [decide_eq_false (show ¬ (c :: r).length ≤ 24 by omega)]
      simp
    rw [ilt_f] at h
    refine Ev.some (lget_zero _) (Ev.bind (part_ev _) ?_)
    have hn : nameOk (c :: r) = (ltrI (c.toNat : Int) && (c :: r).all fun c => partI (c.toNat : Int)) := by
      unfold nameOk
      rw [decide_eq_true (show (c :: r).length ≤ 24 by omega)]
      simp
    rw [hn, ← ltr_part]
    have key := ev_list (P := fun i => Ev (fun m k => term_isName_L m k (c :: r) (c :: r).length i) (((c :: r).drop i).all fun c => partI (c.toNat : Int))) (c :: r) (by omega)
      (fun hc => by
        refine Ev.loop ?_
        simp only [term_isName_l1, term_isName_s1]
        refine Ev.cf hc (Ev.ret ?_)
        rw [List.drop_length]; rfl)
      (fun i x hx hd hc hg hi hP => by
        refine Ev.loop ?_
        simp only [term_isName_l1, term_isName_s1]
        refine Ev.ct hc (Ev.some hg (Ev.bind (part_ev _) ?_))
        rw [hd, List.all_cons, hi]
        cases h1 : partI (x.toNat : Int) with
        | true => exact Ev.cf rfl (hP.res (by simp))
        | false => exact Ev.ct rfl (Ev.pure _))
    have fin : Ev (fun m _ => term_isName_L m m (c :: r) (c :: r).length 0) ((c :: r).all fun c => partI (c.toNat : Int)) := by
      refine Ev.diag (L := fun m k => term_isName_L m k (c :: r) (c :: r).length 0) ?_
      exact (key 0 (Nat.zero_le _)).res (by rw [List.drop_zero])
    have hz : lget (c :: r) 0 = some c := lget_zero _
    have h95 : Ev (fun m _ => cond (ieq (c.toNat : Int) 95) (some false) (obind (lget (c :: r) 0) fun v => cond (ieq (v.toNat : Int) 35) (some false) (term_isName_L m m (c :: r) (c :: r).length 0))) ((!(decide ((c.toNat : Int) = 95)) && !(decide ((c.toNat : Int) = 35))) && (c :: r).all fun c => partI (c.toNat : Int)) := by
      by_cases h3 : (c.toNat : Int) = 95
      · exact Ev.ct (ieq_t.2 h3) (Ev.ret (by rw [decide_eq_true h3]; rfl))
      · refine Ev.cf (ieq_f.2 h3) (Ev.some hz ?_)
        rw [decide_eq_false h3]
        by_cases h4 : (c.toNat : Int) = 35
        · exact Ev.ct (ieq_t.2 h4) (Ev.ret (by rw [decide_eq_true h4]; rfl))
        · refine Ev.cf (ieq_f.2 h4) (fin.res ?_)
          rw [decide_eq_false h4]; rfl
    cases h1 : partI (c.toNat : Int) with
    | false => exact Ev.ct rfl (Ev.pure _)
    | true =>
      refine Ev.cf rfl (Ev.some hz ?_)
      by_cases h5 : 48 ≤ (c.toNat : Int)
      · refine Ev.ct (ile_t.2 h5) (Ev.some hz ?_)
        by_cases h6 : (c.toNat : Int) ≤ 57
        · exact Ev.ct (ile_t.2 h6) (Ev.ret (by rw [decide_eq_true h5, decide_eq_true h6]; rfl))
        · refine Ev.cf (ile_f.2 (by omega)) (Ev.some hz ?_)
          exact h95.res (by rw [decide_eq_true h5, decide_eq_false h6]; rfl)
      · refine Ev.cf (ile_f.2 (by omega)) (Ev.some hz ?_)
        exact h95.res (by rw [decide_eq_false h5]; rfl)
/-- The error of a node. -/
theorem node_ev (t : T) : Ev (fun m _ => ref01_node m t) (nodeE t) := by
  refine Ev.succ ?_
  simp only [ref01_node_e, ref01_node_s0]
  unfold nodeE nodeK
  have nm : ∀ {R : Int}, (∀ b, nameOk t.name = b → (if b then (if 8 < t.kids.length then 3 else 0) else 2) = R) → Ev (fun m _ => obind (ref01_IsName m t.name) fun v => cond (bnot v) (some 2) (cond (ilt 8 (t.kids.length : Int)) (some 3) (some 0))) R := by
    intro R h
    refine Ev.bind (isName_ev _) ?_
    refine Ev.res ?_ (h _ rfl)
    cases hn : nameOk t.name with
    | false => exact Ev.ct rfl (Ev.pure _)
    | true =>
      refine Ev.cf rfl ?_
      refine Ev.ite (fun h => ?_) fun h => ?_
      · rw [ilt_t] at h; exact Ev.ret (by rw [if_pos rfl, if_pos (by omega)])
      · rw [ilt_f] at h; exact Ev.ret (by rw [if_pos rfl, if_neg (by omega)])
  have leaf : t.kids.length = 0 → ∀ {R : Int}, (∀ b, nameOk t.name = b → (if b then 0 else 2) = R) → Ev (fun m _ => obind (ref01_IsName m t.name) fun v => cond (bnot v) (some 2) (cond (ilt 8 (t.kids.length : Int)) (some 3) (some 0))) R := by
    intro h0 R h
    refine nm fun b hb => ?_
    rw [if_neg (show ¬ 8 < t.kids.length by omega)]
    exact h b hb
  by_cases h1 : t.kind = 1
  · rw [if_pos (.inl h1)]
    refine Ev.ct (ieq_t.2 h1) ?_
    refine Ev.ite (fun h => ?_) fun h => ?_
    · rw [ilt_t] at h; exact Ev.ret (by rw [if_pos (.inl h)])
    rw [ilt_f] at h
    refine Ev.ite (fun h' => ?_) fun h' => ?_
    · rw [ilt_t] at h'; exact Ev.ret (by rw [if_pos (.inr (.inl h'))])
    rw [ilt_f] at h'
    refine Ev.ite (fun h'' => ?_) fun h'' => ?_
    · rw [ilt_t] at h''; exact Ev.ret (by rw [if_pos (.inr (.inr (by omega)))])
    rw [ilt_f] at h''
    rw [if_neg (by omega)]
    exact leaf (by omega) fun b hb => by rw [hb]
  refine Ev.cf (ieq_f.2 h1) ?_
  by_cases h2 : t.kind = 2
  · rw [if_pos (.inr h2)]
    refine Ev.cf (bnf.2 (ieq_t.2 h2)) ?_
    refine Ev.ite (fun h => ?_) fun h => ?_
    · rw [ilt_t] at h; exact Ev.ret (by rw [if_pos (.inl h)])
    rw [ilt_f] at h
    refine Ev.ite (fun h' => ?_) fun h' => ?_
    · rw [ilt_t] at h'; exact Ev.ret (by rw [if_pos (.inr (.inl h'))])
    rw [ilt_f] at h'
    refine Ev.cf (bnf.2 (ieq_t.2 h2)) (Ev.ct (ieq_t.2 h2) ?_)
    refine Ev.ite (fun h'' => ?_) fun h'' => ?_
    · rw [ilt_t] at h''; exact Ev.ret (by rw [if_pos (.inr (.inr (by omega)))])
    rw [ilt_f] at h''
    rw [if_neg (by omega)]
    exact leaf (by omega) fun b hb => by rw [hb]
  refine Ev.ct (bnt.2 (ieq_f.2 h2)) ?_
  rw [if_neg (by omega)]
  by_cases h3 : t.kind = 3
  · rw [if_pos h3]
    refine Ev.cf (bnf.2 (ieq_t.2 h3)) ?_
    refine Ev.ite (fun h => ?_) fun h => ?_
    · rw [ilt_t] at h; exact Ev.ret (by rw [if_pos (by omega)])
    rw [ilt_f] at h
    refine Ev.ite (fun h' => ?_) fun h' => ?_
    · rw [ilt_t] at h'; exact Ev.ret (by rw [if_pos (by omega)])
    rw [ilt_f] at h'
    refine Ev.ct (bnt.2 (ieq_f.2 h2)) ?_
    refine Ev.ite (fun h'' => ?_) fun h'' => ?_
    · rw [bnt, ieq_f] at h''; exact Ev.ret (by rw [if_pos h''])
    rw [bnf, ieq_t] at h''
    rw [if_neg (by omega)]
    refine Ev.cf (ieq_f.2 h2) ?_
    exact nm fun b hb => by rw [hb]
  · rw [if_neg h3]
    exact Ev.ct (bnt.2 (ieq_f.2 h3)) (Ev.pure _)
theorem nodes_ev (t : T) : size t ≤ 1000000000 → Ev (fun m _ => ref01_nodes m t) (nodesE t) := by
  induction t using T.ind with
  | h t ih =>
    intro hs
    refine Ev.succ ?_
    simp only [ref01_nodes_e, ref01_nodes_s0, re_eq]
    have hl := kids_lt t
    have key := ev_list (P := fun i => Ev (fun m k => ref01_nodes_L m (ref01_nodes m) k i t.kind t.name t.sort t.kids) (((t.kids.drop i).map nodesE).foldl thn 0)) t.kids (by omega)
      (fun hc => by
        refine Ev.loop ?_
        simp only [ref01_nodes_l1, ref01_nodes_s1]
        refine Ev.cf hc ?_
        exact Ev.ret (by simp))
      (fun i x hx hd hc hg hi hP => by
        refine Ev.loop ?_
        simp only [ref01_nodes_l1, ref01_nodes_s1, re_eq]
        refine Ev.ct hc (Ev.some hg ?_)
        have hm := List.mem_of_getElem? hx
        have h1 := kid_lt t x hm
        refine Ev.bind (ih x hm (by omega)) ?_
        rw [hd, List.map_cons, foldl_thn_zero, hi]
        refine Ev.ite (fun h => ?_) fun h => ?_
        · rw [bnt, ieq_f] at h; exact Ev.ret (by rw [foldl_thn_ne _ h])
        · rw [bnf, ieq_t] at h; rw [h]; exact hP)
    rw [nodesE_eq]
    refine Ev.bind (node_ev t) ?_
    refine Ev.ite (fun h => ?_) fun h => ?_
    · rw [bnt, ieq_f] at h; exact Ev.ret (by rw [foldl_thn_ne _ h])
    · rw [bnf, ieq_t] at h; rw [h]
      refine Ev.diag (L := fun m k => ref01_nodes_L m (ref01_nodes m) k 0 t.kind t.name t.sort t.kids) ?_
      exact (key 0 (Nat.zero_le _)).res (by rw [List.drop_zero])
theorem rvalid_ev (t : T) (hs : size t ≤ 1000000000) : Ev (fun m _ => ref01_Valid m t) (validE t) := by
  refine Ev.succ ?_
  simp only [ref01_Valid_e, ref01_Valid_s0, re_eq]
  unfold validE
  refine Ev.bind (nodes_ev t hs) ?_
  refine Ev.ite (fun h => ?_) fun h => ?_
  · rw [bnt, ieq_f] at h; exact Ev.ret (by rw [if_pos h])
  rw [bnf, ieq_t] at h
  rw [if_neg (by omega)]
  refine Ev.bind (rsize_ev t hs) ?_
  refine Ev.ite (fun h => ?_) fun h => ?_
  · rw [ilt_t] at h; exact Ev.ret (by rw [if_pos (.inl (by omega))])
  rw [ilt_f] at h
  refine Ev.bind (rdepth_ev t hs) ?_
  refine Ev.ite (fun h => ?_) fun h => ?_
  · rw [ilt_t] at h; exact Ev.ret (by rw [if_pos (.inr (by omega))])
  · rw [ilt_f] at h; exact Ev.ret (by rw [if_neg (by omega)])
end Go.AmYtmodnblfcikjlaaGreat
namespace Go.AmYtmodnblfcikjlaaGreat
open Go Go.GxYtmodnblfcikjlaaGreat Go.Lib
theorem fold_lev (lev d : Nat) : ∀ (l : List Nat) (c : Nat), l.foldl (fun a x => max a (lev + x)) (max d (lev + c)) = max d (lev + l.foldl max c)
  | [], c => rfl
  | x :: l, c => by
    rw [List.foldl_cons, List.foldl_cons, ← fold_lev lev d l (max c x)]
    congr 1; omega
/-- What 'check' answers: its counters are right where no error is found. -/
def CheckR (lev n d : Nat) (e : Int) (s : Nat) (x : Nat) (r : (Int × Int × Unit) × (Int × Unit)) : Prop := r.2.1 = e ∧ (e = 0 → r.1.1 = ((n + s : Nat) : Int) ∧ r.1.2.1 = ((max d (lev + x) : Nat) : Int))
theorem check_ev (t : T) : size t ≤ 1000000000 → ∀ lev n d : Nat, lev + size t ≤ 2000000000 → n + size t ≤ 2000000000 → d ≤ 2000000000 → ∃ r, Ev (fun m _ => term_check m t lev n d) r ∧ CheckR lev n d (nodesE t) (size t) (depT t - 1) r := by
  induction t using T.ind with
  | h t ih =>
    intro hs lev n d hlev hn hd0
    have hl := kids_lt t
    have hsz := size_eq t
    have key := ev_list (P := fun i => ∀ n d : Nat, n + ((t.kids.drop i).map size).sum ≤ 2000000000 → d ≤ 2000000000 → ∃ r, Ev (fun m k => term_check_L m (term_check m) k lev t.kids t.kids.length i n d) r ∧ r.2.1 = ((t.kids.drop i).map nodesE).foldl thn 0 ∧ (((t.kids.drop i).map nodesE).foldl thn 0 = 0 → r.1.1 = ((n + ((t.kids.drop i).map size).sum : Nat) : Int) ∧ r.1.2.1 = ((((t.kids.drop i).map depT).foldl (fun a x => max a (lev + x)) d : Nat) : Int))) t.kids (by omega)
      (fun hc n d _ _ => by
        refine ⟨((n, d, ()), (0, ())), ?_, ?_, fun _ => ⟨?_, ?_⟩⟩
        · refine Ev.loop ?_
          simp only [term_check_l1, term_check_s1]
          exact Ev.cf hc (Ev.pure _)
        · simp
        · simp
        · simp)
      (fun i x hx hd hc hg hi hP n d hn hd1 => by
        have hm := List.mem_of_getElem? hx
        have h1 := kid_lt t x hm
        rw [sum_drop hd] at hn
        obtain ⟨r, hr, he, hz⟩ := ih x hm (by omega) (lev + 1) n d (by omega) (by omega) hd1
        have hstep : ∀ r' , (r.2.1 ≠ 0 → r' = ((r.1.1, r.1.2.1, ()), (r.2.1, ()))) → (r.2.1 = 0 → Ev (fun m k => term_check_L m (term_check m) k lev t.kids t.kids.length ((i + 1 : Nat) : Int) r.1.1 r.1.2.1) r') → Ev (fun m k => term_check_L m (term_check m) k lev t.kids t.kids.length i n d) r' := by
          intro r' g1 g2
          refine Ev.loop ?_
          simp only [term_check_l1, term_check_s1, re_eq]
          refine Ev.ct hc (Ev.some hg ?_)
          rw [show iadd (lev : Int) 1 = ((lev + 1 : Nat) : Int) by unfold iadd; omega, iw_id (by omega), hi]
          refine Ev.bind hr ?_
          refine Ev.ite (fun h => ?_) fun h => ?_
          · rw [bnt, ieq_f] at h; exact Ev.ret (g1 h).symm
          · rw [bnf, ieq_t] at h; exact g2 h
        rw [hd, List.map_cons, List.map_cons, List.map_cons, List.sum_cons, foldl_thn_zero, List.foldl_cons]
        by_cases h0 : nodesE x = 0
        · obtain ⟨z1, z2⟩ := hz h0
          have hdep := depT_le x
          obtain ⟨r', g1, g2, g3⟩ := hP (n + size x) (max d (lev + 1 + (depT x - 1))) (by omega) (by omega)
          refine ⟨r', hstep r' (fun h => absurd (he.trans h0) h) (fun _ => by rw [z1, z2]; exact g1), by rw [h0]; exact g2, fun hh => ?_⟩
          rw [h0] at hh
          obtain ⟨q1, q2⟩ := g3 hh
          refine ⟨by rw [q1]; congr 1; omega, ?_⟩
          rw [q2]
          have : depT x ≥ 1 := by rw [depT_eq]; omega
          rw [show max d (lev + 1 + (depT x - 1)) = max d (lev + depT x) by omega]
        · refine ⟨((r.1.1, r.1.2.1, ()), (r.2.1, ())), hstep _ (fun _ => rfl) (fun h => absurd (he.symm.trans h) h0), ?_, fun hh => ?_⟩
          · rw [foldl_thn_ne _ h0]; exact he
          · rw [foldl_thn_ne _ h0] at hh; exact absurd hh h0)
    -- the node
    have start : ∀ r, (nodeE t ≠ 0 → r = ((((n + 1 : Nat) : Int), ((max d lev : Nat) : Int), ()), (nodeE t, ()))) → (nodeE t = 0 → Ev (fun m _ => term_check_L m (term_check m) m lev t.kids t.kids.length 0 ((n + 1 : Nat) : Int) ((max d lev : Nat) : Int)) r) → Ev (fun m _ => term_check m t lev n d) r := by
      intro r g1 g2
      refine Ev.succ ?_
      simp only [term_check_e, term_check_s0]
      rw [show iadd (n : Int) 1 = ((n + 1 : Nat) : Int) by unfold iadd; omega, iw_id (by omega), imax_nat]
      have err : ∀ e, nodeE t = e → e ≠ 0 → Ev (fun _ _ => some ((((n + 1 : Nat) : Int), ((max d lev : Nat) : Int), ()), (e, ()))) r := by
        intro e he h
        refine Ev.ret ?_
        subst he
        exact (g1 h).symm
      have nm : (t.kind = 3 ∨ t.kids.length = 0) → (∀ b, nameOk t.name = b → (if b then (if 8 < t.kids.length then 3 else 0) else 2) = nodeE t) → Ev (fun m _ => obind (term_isName m t.name) fun v => cond (bnot v) (some ((((n + 1 : Nat) : Int), ((max d lev : Nat) : Int), ()), (2, ()))) (cond (ilt 8 (t.kids.length : Int)) (some ((((n + 1 : Nat) : Int), ((max d lev : Nat) : Int), ()), (3, ()))) (term_check_L m (term_check m) m lev t.kids t.kids.length 0 ((n + 1 : Nat) : Int) ((max d lev : Nat) : Int)))) r := by
        intro _ h
        have h := h _ rfl
        refine Ev.bind (tisName_ev _) ?_
        cases hn : nameOk t.name with
        | false => rw [hn] at h; exact Ev.ct rfl (err 2 h.symm (by decide))
        | true =>
          rw [hn, if_pos rfl] at h
          refine Ev.cf rfl ?_
          refine Ev.ite (fun h' => ?_) fun h' => ?_
          · rw [ilt_t] at h'; rw [if_pos (by omega)] at h; exact err 3 h.symm (by decide)
          · rw [ilt_f] at h'; rw [if_neg (by omega)] at h; exact g2 h.symm
      have leafE : ∀ k, t.kind = k → (k = 1 ∨ k = 2) → nodeE t = if t.sort < 0 ∨ 5 < t.sort ∨ 0 < t.kids.length then 1 else if nameOk t.name then 0 else 2 := by
        intro k hk h
        unfold nodeE nodeK
        rw [hk, if_pos h]
      have leaf : ∀ k, t.kind = k → (k = 1 ∨ k = 2) → Ev (fun m _ => cond (ilt t.sort 0) (some ((((n + 1 : Nat) : Int), ((max d lev : Nat) : Int), ()), (1, ()))) (cond (ilt 5 t.sort) (some ((((n + 1 : Nat) : Int), ((max d lev : Nat) : Int), ()), (1, ()))) (cond (ilt 0 (t.kids.length : Int)) (some ((((n + 1 : Nat) : Int), ((max d lev : Nat) : Int), ()), (1, ()))) (obind (term_isName m t.name) fun v => cond (bnot v) (some ((((n + 1 : Nat) : Int), ((max d lev : Nat) : Int), ()), (2, ()))) (cond (ilt 8 (t.kids.length : Int)) (some ((((n + 1 : Nat) : Int), ((max d lev : Nat) : Int), ()), (3, ()))) (term_check_L m (term_check m) m lev t.kids t.kids.length 0 ((n + 1 : Nat) : Int) ((max d lev : Nat) : Int))))))) r := by
        intro k hk h
        have hE := leafE k hk h
        refine Ev.ite (fun h' => ?_) fun h' => ?_
        · rw [ilt_t] at h'; exact err 1 (by rw [hE, if_pos (.inl h')]) (by decide)
        rw [ilt_f] at h'
        refine Ev.ite (fun h1 => ?_) fun h1 => ?_
        · rw [ilt_t] at h1; exact err 1 (by rw [hE, if_pos (.inr (.inl h1))]) (by decide)
        rw [ilt_f] at h1
        refine Ev.ite (fun h2 => ?_) fun h2 => ?_
        · rw [ilt_t] at h2; exact err 1 (by rw [hE, if_pos (.inr (.inr (by omega)))]) (by decide)
        rw [ilt_f] at h2
        rw [if_neg (by omega)] at hE
        refine nm (.inr (by omega)) fun b hb => ?_
        rw [hE, hb, if_neg (show ¬ 8 < t.kids.length by omega)]
      by_cases h1 : t.kind = 1
      · exact Ev.ct (ieq_t.2 h1) (leaf 1 h1 (.inl rfl))
      refine Ev.cf (ieq_f.2 h1) ?_
      by_cases h2 : t.kind = 2
      · exact Ev.ct (ieq_t.2 h2) (leaf 2 h2 (.inr rfl))
      refine Ev.cf (ieq_f.2 h2) ?_
      by_cases h3 : t.kind = 3
      · refine Ev.ct (ieq_t.2 h3) ?_
        have hE : nodeE t = if t.sort ≠ 0 then 1 else if nameOk t.name then (if 8 < t.kids.length then 3 else 0) else 2 := by
          unfold nodeE nodeK
          rw [if_neg (by omega), if_pos h3]
        refine Ev.ite (fun h' => ?_) fun h' => ?_
        · rw [bnt, ieq_f] at h'; exact err 1 (by rw [hE, if_pos h']) (by decide)
        rw [bnf, ieq_t] at h'
        rw [if_neg (by omega)] at hE
        exact nm (.inl h3) fun b hb => by rw [hE, hb]
      · refine Ev.cf (ieq_f.2 h3) ?_
        refine err 1 ?_ (by decide)
        unfold nodeE nodeK
        rw [if_neg (by omega), if_neg h3]
    rw [nodesE_eq]
    by_cases h0 : nodeE t = 0
    · rw [h0]
      obtain ⟨r, g1, g2, g3⟩ := key 0 (Nat.zero_le _) (n + 1) (max d lev) (by rw [List.drop_zero]; omega) (by omega)
      rw [List.drop_zero] at g2 g3
      refine ⟨r, start r (fun h => absurd h0 h) (fun _ => Ev.diag (L := fun m k => term_check_L m (term_check m) k lev t.kids t.kids.length 0 ((n + 1 : Nat) : Int) ((max d lev : Nat) : Int)) g1), g2, fun hh => ?_⟩
      obtain ⟨q1, q2⟩ := g3 hh
      refine ⟨by rw [q1]; congr 1; omega, ?_⟩
      rw [q2, show max d lev = max d (lev + 0) by omega, fold_lev, depT_eq, Nat.add_sub_cancel]
    · refine ⟨_, start _ (fun _ => rfl) (fun h => absurd h h0), ?_, fun hh => ?_⟩
      · rw [foldl_thn_ne _ h0]
      · rw [foldl_thn_ne _ h0] at hh; exact absurd hh h0
theorem tvalid_ev (t : T) (hs : size t ≤ 1000000000) : Ev (fun m _ => term_Valid m t) (validE t) := by
  refine Ev.succ ?_
  simp only [term_Valid_e, term_Valid_s0, re_eq]
  unfold validE
  obtain ⟨r, h1, h2, h3⟩ := check_ev t hs 1 0 0 (by omega) (by omega) (by omega)
  refine Ev.bind h1 ?_
  rw [h2]
  refine Ev.ite (fun h => ?_) fun h => ?_
  · rw [bnt, ieq_f] at h; exact Ev.ret (by rw [if_pos h])
  rw [bnf, ieq_t] at h
  obtain ⟨q1, q2⟩ := h3 h
  have hd : depT t ≥ 1 := by rw [depT_eq]; omega
  rw [if_neg (by omega), q1, q2]
  refine Ev.ite (fun h => ?_) fun h => ?_
  · rw [ilt_t] at h; exact Ev.ret (by rw [if_pos (.inl (by omega))])
  rw [ilt_f] at h
  refine Ev.ite (fun h => ?_) fun h => ?_
  · rw [ilt_t] at h; exact Ev.ret (by rw [if_pos (.inr (by omega))])
  · rw [ilt_f] at h; exact Ev.ret (by rw [if_neg (by omega)])
/-- Copies. -/
theorem clone_ev (t : T) : size t ≤ 1000000000 → Ev (fun m _ => term_clone m t) t := by
  induction t using T.ind with
  | h t ih =>
    intro hs
    refine Ev.succ ?_
    simp only [term_clone_e, term_clone_s0]
    have hl := kids_lt t
    have key := ev_list (P := fun i => Ev (fun m k => term_clone_L m (term_clone m) k t.kids t.kids.length i t.kind t.name t.sort 0 [] 0 (t.kids.take i) []) t) t.kids (by omega)
      (fun hc => by
        refine Ev.loop ?_
        simp only [term_clone_l1, term_clone_s1]
        refine Ev.cf hc ?_
        rw [List.take_length]
        exact Ev.ret (re_eq t))
      (fun i x hx hd hc hg hi hP => by
        refine Ev.loop ?_
        simp only [term_clone_l1, term_clone_s1, re_eq]
        have hm := List.mem_of_getElem? hx
        have h1 := kid_lt t x hm
        refine Ev.ct hc (Ev.some hg (Ev.bind (ih x hm (by omega)) (Ev.ct (room_t ?_ (by omega)) ?_)))
        · have : (t.kids.take i).length ≤ t.kids.length := by rw [List.length_take]; omega
          omega
        · rw [hi]
          refine hP.congr fun m k => ?_
          rw [List.take_add_one, hx]; rfl)
    refine Ev.diag (L := fun m k => term_clone_L m (term_clone m) k t.kids t.kids.length 0 t.kind t.name t.sort 0 [] 0 [] []) ?_
    exact key 0 (Nat.zero_le _)
/-- Budgets, of terms of any size. -/
noncomputable def FitT : T → Prop := T.para fun t rs => t.kids.length < 2 ^ 62 ∧ t.name.length < 2 ^ 62 ∧ ∀ p ∈ rs, p
theorem fitT_eq (t : T) : FitT t ↔ t.kids.length < 2 ^ 62 ∧ t.name.length < 2 ^ 62 ∧ ∀ k ∈ t.kids, FitT k := by
  unfold FitT
  rw [T.para_eq]
  exact ⟨fun ⟨a, b, c⟩ => ⟨a, b, fun k hk => c _ (List.mem_map_of_mem hk)⟩, fun ⟨a, b, c⟩ => ⟨a, b, fun p hp => by obtain ⟨k, hk, rfl⟩ := List.mem_map.1 hp; exact c k hk⟩⟩
theorem budget_ev (t : T) : FitT t → ∀ mm : Int, -1000000000 ≤ mm → mm ≤ 1000000000 → Ev (fun m _ => ref01_budget m t mm) (budT t mm) := by
  induction t using T.ind with
  | h t ih =>
    intro hf mm hm0 hm1
    obtain ⟨f1, f2, f3⟩ := (fitT_eq t).1 hf
    refine Ev.succ ?_
    simp only [ref01_budget_e, ref01_budget_s0]
    rw [budT_eq]
    refine Ev.ite (fun h => ?_) fun h => ?_
    · rw [ile_t] at h; exact Ev.ret (by rw [if_pos (.inl h)])
    rw [ile_f] at h
    refine Ev.ite (fun h' => ?_) fun h' => ?_
    · rw [ilt_t] at h'; exact Ev.ret (by rw [if_pos (.inr (by omega))])
    rw [ilt_f] at h'
    rw [if_neg (by omega), show isub mm 1 = mm - 1 from rfl, iw_id (by omega)]
    have key := ev_list (P := fun i => ∀ mm : Int, 0 ≤ mm → mm ≤ 1000000000 → Ev (fun m k => ref01_budget_L m (ref01_budget m) k mm i t.kind t.name t.sort t.kids) (budL ((t.kids.drop i).map budT) mm)) t.kids f1
      (fun hc mm _ _ => by
        refine Ev.loop ?_
        simp only [ref01_budget_l1, ref01_budget_s1]
        refine Ev.cf hc ?_
        rw [List.drop_length]
        exact Ev.pure _)
      (fun i x hx hd hc hg hi hP mm hm0 hm1 => by
        refine Ev.loop ?_
        simp only [ref01_budget_l1, ref01_budget_s1, re_eq]
        have hm := List.mem_of_getElem? hx
        refine Ev.ct hc (Ev.some hg (Ev.bind (ih x hm (f3 x hm) mm (by omega) (by omega)) ?_))
        rw [hd, List.map_cons, budL, hi]
        have := budT_spec x mm
        refine Ev.ite (fun h => ?_) fun h => ?_
        · rw [ilt_t] at h; exact Ev.ret (by rw [if_pos h])
        · rw [ilt_f] at h
          rw [if_neg (by omega)]
          exact hP _ (by omega) (by omega))
    refine Ev.diag (L := fun m k => ref01_budget_L m (ref01_budget m) k (mm - 1) 0 t.kind t.name t.sort t.kids) ?_
    exact (key 0 (Nat.zero_le _) (mm - 1) (by omega) (by omega)).res (by rw [List.drop_zero])
theorem few_ev (l : List T) (hl : l.length < 2 ^ 62) (hf : ∀ t ∈ l, FitT t) (n : Nat) (mm : Int) (hm0 : 0 ≤ mm) (hm1 : mm ≤ 1000000000) : Ev (fun m _ => ref01_Few m l n mm) (decide (l.length ≤ n) && fewL l mm) := by
  refine Ev.succ ?_
  simp only [ref01_Few_e, ref01_Few_s0]
  refine Ev.ite (fun h => ?_) fun h => ?_
  · rw [ilt_t] at h; exact Ev.ret (by rw [decide_eq_false (by omega)]; rfl)
  rw [ilt_f] at h
  rw [decide_eq_true (by omega), Bool.true_and]
  have key := ev_list (P := fun i => ∀ mm : Int, 0 ≤ mm → mm ≤ 1000000000 → Ev (fun m k => ref01_Few_L m k l mm i) (fewL (l.drop i) mm)) l hl
    (fun hc mm _ _ => by
      refine Ev.loop ?_
      simp only [ref01_Few_l1, ref01_Few_s1]
      refine Ev.cf hc ?_
      rw [List.drop_length]
      exact Ev.pure _)
    (fun i x hx hd hc hg hi hP mm hm0 hm1 => by
      refine Ev.loop ?_
      simp only [ref01_Few_l1, ref01_Few_s1, re_eq]
      have hm := List.mem_of_getElem? hx
      refine Ev.ct hc (Ev.some hg (Ev.bind (budget_ev x (hf x hm) mm (by omega) (by omega)) ?_))
      rw [hd, fewL, hi]
      have := budT_spec x mm
      refine Ev.ite (fun h => ?_) fun h => ?_
      · rw [ilt_t] at h; exact Ev.ret (by rw [if_pos h])
      · rw [ilt_f] at h
        rw [if_neg (by omega)]
        exact hP _ (by omega) (by omega))
  refine Ev.diag (L := fun m k => ref01_Few_L m k l mm 0) ?_
  exact (key 0 (Nat.zero_le _) mm hm0 hm1).res (by rw [List.drop_zero])
theorem few_size {l : List T} {mm : Int} (hm : 0 ≤ mm) (h : fewL l mm = true) : ∀ t ∈ l, (size t : Int) ≤ mm := fun t ht => by
  have h1 := fewL_size l mm hm h
  have h2 := mem_le_sum l t ht
  omega
end Go.AmYtmodnblfcikjlaaGreat
namespace Go.GxYtmodnblfcikjlaaGreat
def chkRK (t : T) : Int := if (symOf t.name).2.2 = 0 then 10 else if fitR symL t.name t.kids.length = false then 6 else if (symOf t.name).2.2 = 2 ∧ agentsB t = false then 10 else 0
theorem symOf_rows (n : List UInt8) : (symL.find? fun r => r.1 == n) = none ∨ ∃ r ∈ symL, r.1 = n ∧ (symL.find? fun r => r.1 == n) = some r := by
  cases h : symL.find? fun r => r.1 == n with
  | none => exact .inl rfl
  | some r => exact .inr ⟨r, List.mem_of_find?_eq_some h, by simpa using List.find?_some h, rfl⟩
theorem symOf_none {n : List UInt8} (h : (symL.find? fun r => r.1 == n) = none) : symOf n = (0, 0, 0) := by unfold symOf; rw [h]; rfl
theorem symOf_some {n : List UInt8} {r : List UInt8 × Int × Int × Int} (h : (symL.find? fun r => r.1 == n) = some r) : symOf n = r.2 := by unfold symOf; rw [h]; rfl
def rowOk (r : List UInt8 × Int × Int × Int) : Bool :=
  decide (r.2.2.2 ≠ 0) && decide (0 ≤ r.2.1) && decide (r.2.2.1 ≤ 8) && (decide (r.2.2.2 = 2) == (r.1 == nNew || r.1 == nSk || r.1 == nShk)) && (decide (r.2.2.2 = 2) == decide (r.2.2.2 = 2 ∧ 1 ≤ r.2.1)) && (decide (r.2.2.2 = 3) == (r.1 == nFst || r.1 == nSnd || r.1 == nDec || r.1 == nAdec || r.1 == nOpen || r.1 == nRead))
theorem rows_ok : symL.all rowOk = true := by decide
theorem symOf_kind {n : List UInt8} (h : (symOf n).2.2 ≠ 0) : symH symL n = true ∧ symF symL n = symOf n ∧ 0 ≤ (symOf n).1 ∧ (symOf n).2.1 ≤ 8 ∧ ((symOf n).2.2 = 2 ↔ n = nNew ∨ n = nSk ∨ n = nShk) ∧ ((symOf n).2.2 = 2 → 1 ≤ (symOf n).1) ∧ ((symOf n).2.2 = 3 ↔ isD n = true) := by
  rcases symOf_rows n with h0 | ⟨r, hr, hn, h0⟩
  · rw [symOf_none h0] at h; exact absurd rfl h
  · have hk := List.all_eq_true.1 rows_ok r hr
    subst hn
    rw [symOf_some h0]
    unfold rowOk at hk
    simp only [Bool.and_eq_true, beq_iff_eq, decide_eq_true_eq] at hk
    obtain ⟨⟨⟨⟨⟨h1, h2⟩, h3⟩, h4⟩, h5⟩, h6⟩ := hk
    refine ⟨List.any_eq_true.2 ⟨r, hr, by simp⟩, symOf_some h0, h2, h3, ?_, ?_, ?_⟩
    · constructor
      · intro h
        rw [decide_eq_true h] at h4
        have := h4.symm
        simp only [Bool.or_eq_true, beq_iff_eq] at this
        exact or_assoc.1 this
      · intro h
        by_cases hh : r.2.2.2 = 2
        · exact hh
        · rw [decide_eq_false hh] at h4
          have := h4.symm
          simp only [Bool.or_eq_false_iff, beq_eq_false_iff_ne] at this
          rcases h with h | h | h
          · exact absurd h this.1.1
          · exact absurd h this.1.2
          · exact absurd h this.2
    · intro h
      rw [decide_eq_true h] at h5
      have := of_decide_eq_true h5.symm
      exact this.2
    · unfold isD
      rw [← h6]
      simp
theorem chkRK_eq (t : T) (h3 : t.kind = 3) : chkRK t = chkK t := by
  unfold chkRK chkK
  rw [if_neg (show ¬ (t.kind ≠ 3) from fun h => h h3)]
  by_cases h0 : (symOf t.name).2.2 = 0
  · rw [if_pos h0, if_pos h0]
  · rw [if_neg h0, if_neg h0]
    obtain ⟨k1, k2, k3, k4, k5, k6, k7⟩ := symOf_kind h0
    have e1 : fitR symL t.name t.kids.length = (decide ((symOf t.name).1 ≤ (t.kids.length : Int)) && decide ((t.kids.length : Int) ≤ (symOf t.name).2.1)) := by
      unfold fitR; rw [k1, k2, Bool.true_and]
    rw [e1]
    by_cases h1 : (t.kids.length : Int) < (symOf t.name).1 ∨ (symOf t.name).2.1 < (t.kids.length : Int)
    · rw [if_pos h1, if_pos]
      rw [Bool.and_eq_false_iff, decide_eq_false_iff_not, decide_eq_false_iff_not]
      omega
    · rw [if_neg h1, if_neg]
      · have e2 : (symOf t.name).2.2 = 2 ∧ agentsB t = false ↔ privB t = true := by
          rw [k5]
          unfold agentsB privB
          by_cases hn : t.name = nNew
          · rw [if_pos hn, if_pos hn]
            simp [hn]
          · rw [if_neg hn, if_neg hn]
            by_cases hs : t.name = nSk ∨ t.name = nShk
            · rw [if_pos hs]
              have : agB t.kids = !(t.kids.any fun k => decide (k.kind = 3) || decide (k.sort ≠ 1)) := by
                unfold agB
                generalize t.kids = l
                induction l with
                | nil => rfl
                | cons x l ih => simp only [List.all_cons, List.any_cons, ih, Bool.not_or]; congr 1; congr 1; by_cases h : x.sort = 1 <;> simp [bne, h]
              rw [this]
              simp [hs]
            · rw [if_neg hs]
              constructor
              · rintro ⟨h, _⟩
                rcases h with h | h
                · exact absurd h hn
                · exact absurd h hs
              · intro h; cases h
        by_cases hp : privB t = true
        · rw [if_pos hp, if_pos (e2.2 hp)]
        · rw [if_neg hp, if_neg (fun h => hp (e2.1 h))]
      · rw [Bool.and_eq_false_iff, decide_eq_false_iff_not, decide_eq_false_iff_not]
        omega
theorem chkE_zero {t : T} (h3 : t.kind = 3) (h : chkE t = 0) : chkK t = 0 ∧ (∀ k ∈ t.kids, chkE k = 0) := by
  rw [chkE_eq, if_neg (show ¬ (t.kind ≠ 3) from fun h => h h3)] at h
  by_cases h0 : chkK t = 0
  · refine ⟨h0, ?_⟩
    rw [h0] at h
    generalize t.kids = l at *
    induction l with
    | nil => intro k hk; cases hk
    | cons x l ih =>
      rw [List.map_cons, foldl_thn_zero] at h
      by_cases hx : chkE x = 0
      · rw [hx] at h
        intro k hk
        rcases List.mem_cons.1 hk with rfl | hk
        · exact hx
        · exact ih h k hk
      · rw [foldl_thn_ne _ hx] at h; exact absurd h hx
  · rw [foldl_thn_ne _ h0] at h; exact absurd h h0
end Go.GxYtmodnblfcikjlaaGreat
namespace Go.AmYtmodnblfcikjlaaGreat
open Go Go.GxYtmodnblfcikjlaaGreat Go.Lib
theorem is_ev (t : T) (n : List UInt8) : Ev (fun m _ => theory_is m t n) (isN t n) := by
  refine Ev.succ ?_
  simp only [theory_is_e, theory_is_s0]
  unfold isN
  refine Ev.ite (fun h => ?_) fun h => ?_
  · rw [ieq_t] at h; exact Ev.ret (by rw [h]; rfl)
  · rw [ieq_f] at h; exact Ev.ret (by rw [show (t.kind == 3) = false from beq_eq_false_iff_ne.2 h]; rfl)
theorem ris_ev (t : T) (n : List UInt8) : Ev (fun m _ => ref09_Is m t n) (isN t n) := by
  refine Ev.succ ?_
  simp only [ref09_Is_e, ref09_Is_s0]
  unfold isN
  refine Ev.ite (fun h => ?_) fun h => ?_
  · rw [ieq_t] at h; exact Ev.ret (by rw [h]; rfl)
  · rw [ieq_f] at h; exact Ev.ret (by rw [show (t.kind == 3) = false from beq_eq_false_iff_ne.2 h]; rfl)
theorem app_ev (n : List UInt8) (l : List T) : Ev (fun m _ => theory_app m n l) (apT n l) := Ev.succ (Ev.pure _)
theorem rapp_ev (n : List UInt8) (l : List T) (hl : l.length ≤ 1000000000) : Ev (fun m _ => ref01_App m n l) (apT n l) := by
  refine Ev.succ ?_
  simp only [ref01_App_e, ref01_App_s0]
  refine Ev.ct (room_t (by simp; omega) (by omega)) ?_
  refine Ev.case (fun h => ?_) fun x t h => ?_
  · subst h; exact Ev.pure _
  · subst h; exact Ev.pure _
/-- The symbol of a name. -/
def symS (n : List UInt8) : List UInt8 × Int × Int × Int := (symL.find? fun r => r.1 == n).getD ([], 0, 0, 0)
theorem symS_two (n : List UInt8) : (symS n).2 = symOf n := by
  unfold symS symOf
  cases symL.find? fun r => r.1 == n <;> rfl
theorem symbol_ev (n : List UInt8) : Ev (fun m _ => theory_symbol m n) (symS n) := by
  refine Ev.succ ?_
  simp only [theory_symbol_e, theory_symbol_s0]
  refine Ev.bind (a := symL) (Ev.pure _) ?_
  have key := ev_list (P := fun i => Ev (fun m k => theory_symbol_L m k n symL symL.length i [] 0 0 0) (((symL.drop i).find? fun r => r.1 == n).getD ([], 0, 0, 0))) symL (by decide)
    (fun hc => by
      refine Ev.loop ?_
      simp only [theory_symbol_l1, theory_symbol_s1]
      refine Ev.cf hc ?_
      exact Ev.pure _)
    (fun i x hx hd hc hg hi hP => by
      refine Ev.loop ?_
      simp only [theory_symbol_l1, theory_symbol_s1]
      refine Ev.ct hc (Ev.some hg ?_)
      rw [hd, List.find?_cons, hi]
      refine Ev.ite (fun h => ?_) fun h => ?_
      · exact Ev.ret (by rw [show (x.1 == n) = true from h]; rfl)
      · rw [show (x.1 == n) = false from h]; exact hP)
  refine Ev.diag (L := fun m k => theory_symbol_L m k n symL symL.length 0 [] 0 0 0) ?_
  exact key 0 (Nat.zero_le _)
/-- What an arity says. -/
theorem chkK_len {t : T} (h3 : t.kind = 3) (h : chkK t = 0) : (symOf t.name).2.2 ≠ 0 ∧ (symOf t.name).1 ≤ (t.kids.length : Int) ∧ (t.kids.length : Int) ≤ (symOf t.name).2.1 ∧ privB t = false := by
  unfold chkK at h
  rw [if_neg (show ¬ t.kind ≠ 3 from fun hh => hh h3)] at h
  split at h
  · omega
  rename_i h1
  split at h
  · omega
  rename_i h2
  split at h
  · omega
  rename_i h4
  exact ⟨h1, by omega, by omega, by simpa using h4⟩
theorem kid_get {t : T} {i : Nat} (h : i < t.kids.length) : lget t.kids (i : Int) = some (kid t i) := by
  rw [lget_nat]
  unfold kid
  rw [List.getD_eq_getElem?_getD, List.getElem?_eq_getElem h]; rfl
theorem kid_0 {t : T} (h : 0 < t.kids.length) : lget t.kids 0 = some (kid t 0) := kid_get (i := 0) h
theorem kid_1 {t : T} (h : 1 < t.kids.length) : lget t.kids 1 = some (kid t 1) := kid_get (i := 1) h
theorem kid_mem {t : T} {i : Nat} (h : i < t.kids.length) : kid t i ∈ t.kids := by
  unfold kid
  rw [List.getD_eq_getElem?_getD, List.getElem?_eq_getElem h]
  exact List.getElem_mem h
theorem isN_t {t : T} {n : List UInt8} : isN t n = true ↔ t.kind = 3 ∧ t.name = n := by
  unfold isN
  rw [Bool.and_eq_true, beq_iff_eq, beq_iff_eq]
theorem tcheck_ev (t : T) : size t ≤ 1000000000 → Ev (fun m _ => theory_check m t) (chkE t) := by
  induction t using T.ind with
  | h t ih =>
    intro hs
    refine Ev.succ ?_
    simp only [theory_check_e, theory_check_s0]
    have hl := kids_lt t
    rw [chkE_eq]
    refine Ev.ite (fun h => ?_) fun h3 => ?_
    · rw [bnt, ieq_f] at h; exact Ev.ret (by rw [if_pos h])
    rw [bnf, ieq_t] at h3
    rw [if_neg (show ¬ t.kind ≠ 3 from fun hh => hh h3)]
    have k2 := ev_list (P := fun i => Ev (fun m k => (theory_check_L m (theory_check m) k).2 t.kids t.kids.length i) (((t.kids.drop i).map chkE).foldl thn 0)) t.kids (by omega)
      (fun hc => by
        refine Ev.loop ?_
        simp only [theory_check_l2, theory_check_s2]
        refine Ev.cf hc ?_
        exact Ev.ret (by simp))
      (fun i x hx hd hc hg hi hP => by
        refine Ev.loop ?_
        simp only [theory_check_l2, theory_check_s2, re_eq]
        have hm := List.mem_of_getElem? hx
        have h1 := kid_lt t x hm
        refine Ev.ct hc (Ev.some hg (Ev.bind (ih x hm (by omega)) ?_))
        rw [hd, List.map_cons, foldl_thn_zero, hi]
        refine Ev.ite (fun h => ?_) fun h => ?_
        · rw [bnt, ieq_f] at h; exact Ev.ret (by rw [foldl_thn_ne _ h])
        · rw [bnf, ieq_t] at h; rw [h]; exact hP)
    have k2' : Ev (fun m k => (theory_check_L m (theory_check m) k).2 t.kids t.kids.length 0) ((t.kids.map chkE).foldl thn 0) := (k2 0 (Nat.zero_le _)).res (by rw [List.drop_zero])
    have k1 := ev_list (P := fun i => Ev (fun m k => (theory_check_L m (theory_check m) k).1 t.kids t.kids.length i t.kind t.name t.sort t.kids) (if (t.kids.drop i).any (fun k => decide (k.kind = 3) || decide (k.sort ≠ 1)) = true then 10 else (t.kids.map chkE).foldl thn 0)) t.kids (by omega)
      (fun hc => by
        refine Ev.loop ?_
        simp only [theory_check_l1, theory_check_s1]
        refine Ev.cf hc ?_
        refine k2'.res ?_
        rw [List.drop_length]; rfl)
      (fun i x hx hd hc hg hi hP => by
        refine Ev.loop ?_
        simp only [theory_check_l1, theory_check_s1, re_eq]
        refine Ev.ct hc (Ev.some hg ?_)
        rw [hd, List.any_cons, hi]
        refine Ev.ite (fun h => ?_) fun h => ?_
        · rw [ieq_t] at h; exact Ev.ret (by rw [decide_eq_true h]; rfl)
        rw [ieq_f] at h
        rw [decide_eq_false h]
        refine Ev.ite (fun h' => ?_) fun h' => ?_
        · rw [bnt, ieq_f] at h'; exact Ev.ret (by rw [decide_eq_true h']; rfl)
        · rw [bnf, ieq_t] at h'; rw [decide_eq_false (fun hh => hh h')]; exact hP)
    have fin2 : chkK t = 0 → Ev (fun m _ => (theory_check_L m (theory_check m) m).2 t.kids t.kids.length 0) ((t.kids.map chkE).foldl thn (chkK t)) := fun h => by
      rw [h]
      exact Ev.diag (L := fun m k => (theory_check_L m (theory_check m) k).2 t.kids t.kids.length 0) k2'
    have fin1 : privB t = t.kids.any (fun k => decide (k.kind = 3) || decide (k.sort ≠ 1)) → chkK t = (if privB t = true then 10 else 0) → Ev (fun m _ => (theory_check_L m (theory_check m) m).1 t.kids t.kids.length 0 t.kind t.name t.sort t.kids) ((t.kids.map chkE).foldl thn (chkK t)) := fun hp h => by
      refine (Ev.diag (L := fun m k => (theory_check_L m (theory_check m) k).1 t.kids t.kids.length 0 t.kind t.name t.sort t.kids) (k1 0 (Nat.zero_le _))).res ?_
      rw [List.drop_zero, ← hp, h]
      split
      · rw [foldl_thn_ne _ (by decide)]
      · rfl
    refine Ev.bind (symbol_ev t.name) ?_
    rw [symS_two]
    have hK : chkK t = if (symOf t.name).2.2 = 0 then 10 else if (t.kids.length : Int) < (symOf t.name).1 ∨ (symOf t.name).2.1 < (t.kids.length : Int) then 6 else if privB t = true then 10 else 0 := by
      unfold chkK
      rw [if_neg (show ¬ t.kind ≠ 3 from fun hh => hh h3)]
    refine Ev.ite (fun h => ?_) fun h => ?_
    · rw [ieq_t] at h; rw [if_pos h] at hK; exact Ev.ret (by rw [hK, foldl_thn_ne _ (by decide)])
    rw [ieq_f] at h
    rw [if_neg h] at hK
    refine Ev.ite (fun h1 => ?_) fun h1 => ?_
    · rw [ilt_t] at h1; rw [if_pos (.inl h1)] at hK; exact Ev.ret (by rw [hK, foldl_thn_ne _ (by decide)])
    rw [ilt_f] at h1
    refine Ev.ite (fun h2 => ?_) fun h2 => ?_
    · rw [ilt_t] at h2; rw [if_pos (.inr h2)] at hK; exact Ev.ret (by rw [hK, foldl_thn_ne _ (by decide)])
    rw [ilt_f] at h2
    rw [if_neg (by omega)] at hK
    refine Ev.ite (fun hn => ?_) fun hn => ?_
    · rw [seq_t] at hn
      refine fin1 ?_ hK
      unfold privB
      rw [hn, if_neg (by decide), if_pos (.inl rfl)]
    rw [seq_f] at hn
    refine Ev.ite (fun hn' => ?_) fun hn' => ?_
    · rw [seq_t] at hn'
      refine fin1 ?_ hK
      unfold privB
      rw [hn', if_neg (by decide), if_pos (.inr rfl)]
    rw [seq_f] at hn'
    refine Ev.ite (fun hw => ?_) fun hw => ?_
    · rw [seq_t] at hw
      have hpos : 0 < t.kids.length := by
        rw [hw, show (symOf [110, 101, 119]).1 = 1 from by decide] at h1
        omega
      refine Ev.some (kid_0 hpos) ?_
      have hp : privB t = decide ((kid t 0).kind ≠ 2) := by
        unfold privB
        rw [if_pos (show t.name = nNew from hw)]
      refine Ev.ite (fun hh => ?_) fun hh => ?_
      · rw [bnt, ieq_f] at hh
        rw [hp, decide_eq_true hh, if_pos rfl] at hK
        exact Ev.ret (by rw [hK, foldl_thn_ne _ (by decide)])
      · rw [bnf, ieq_t] at hh
        rw [hp, decide_eq_false (fun g => g hh)] at hK
        exact fin2 hK
    · rw [seq_f] at hw
      refine fin2 ?_
      have : privB t = false := by
        unfold privB
        rw [if_neg (show ¬ t.name = nNew from hw), if_neg (fun h => h.elim hn hn')]
      rw [this] at hK
      exact hK
theorem tvth_ev (t : T) (hs : size t ≤ 1000000000) : Ev (fun m _ => theory_Valid m t) (vthE t) := by
  refine Ev.succ ?_
  simp only [theory_Valid_e, theory_Valid_s0, re_eq]
  unfold vthE
  refine Ev.bind (tvalid_ev t hs) ?_
  refine Ev.ite (fun h => ?_) fun h => ?_
  · rw [bnt, ieq_f] at h; exact Ev.ret (by rw [thn_ne h])
  · rw [bnf, ieq_t] at h; rw [h]; exact Ev.bind (tcheck_ev t hs) (Ev.pure _)
/-- The reference's checks. -/
theorem kind_ev (n : List UInt8) : Ev (fun m _ => ref09_Kind m n) (symOf n).2.2 := by
  refine Ev.succ ?_
  simp only [ref09_Kind_e, ref09_Kind_s0]
  refine Ev.bind (a := symL) (Ev.succ (Ev.pure _)) ?_
  have key := ev_list (P := fun i => Ev (fun m k => ref09_Kind_L m k n symL i) (((symL.drop i).find? fun r => r.1 == n).getD ([], 0, 0, 0)).2.2.2) symL (by decide)
    (fun hc => by
      refine Ev.loop ?_
      simp only [ref09_Kind_l1, ref09_Kind_s1]
      refine Ev.cf hc ?_
      exact Ev.pure _)
    (fun i x hx hd hc hg hi hP => by
      refine Ev.loop ?_
      simp only [ref09_Kind_l1, ref09_Kind_s1]
      refine Ev.ct hc (Ev.some hg ?_)
      rw [hd, List.find?_cons, hi]
      refine Ev.ite (fun h => ?_) fun h => ?_
      · refine Ev.some hg (Ev.ret ?_)
        rw [show (x.1 == n) = true from h]; rfl
      · rw [show (x.1 == n) = false from h]; exact hP)
  refine Ev.diag (L := fun m k => ref09_Kind_L m k n symL 0) ?_
  exact (key 0 (Nat.zero_le _)).res (by rw [← symS_two]; rfl)
theorem fits_ev (t : T) : Ev (fun m _ => ref09_fits m t) (fitR symL t.name t.kids.length) := by
  refine Ev.succ ?_
  simp only [ref09_fits_e, ref09_fits_s0]
  refine Ev.bind (a := symL) (Ev.succ (Ev.pure _)) ?_
  have key := ev_list (P := fun i => Ev (fun m k => ref09_fits_L m k symL i t.kind t.name t.sort t.kids) (fitR (symL.drop i) t.name t.kids.length)) symL (by decide)
    (fun hc => by
      refine Ev.loop ?_
      simp only [ref09_fits_l1, ref09_fits_s1]
      refine Ev.cf hc ?_
      exact Ev.pure _)
    (fun i x hx hd hc hg hi hP => by
      refine Ev.loop ?_
      simp only [ref09_fits_l1, ref09_fits_s1]
      refine Ev.ct hc (Ev.some hg ?_)
      rw [hd, fitR_cons, hi]
      refine Ev.ite (fun h => ?_) fun h => ?_
      · rw [if_pos (show (x.1 == t.name) = true from h)]
        refine Ev.some hg ?_
        refine Ev.ite (fun h' => ?_) fun h' => ?_
        · rw [ile_t] at h'
          refine Ev.some hg (Ev.ret ?_)
          rw [decide_eq_true h']; rfl
        · rw [ile_f] at h'
          exact Ev.ret (by rw [decide_eq_false (by omega)]; rfl)
      · rw [if_neg (by rw [show (x.1 == t.name) = false from h]; decide)]; exact hP)
  refine Ev.diag (L := fun m k => ref09_fits_L m k symL 0 t.kind t.name t.sort t.kids) ?_
  exact key 0 (Nat.zero_le _)
theorem agents_ev (t : T) (hl : t.kids.length < 2 ^ 62) (hpos : t.name = nNew → 0 < t.kids.length) : Ev (fun m _ => ref09_agents m t) (agentsB t) := by
  refine Ev.succ ?_
  simp only [ref09_agents_e, ref09_agents_s0]
  unfold agentsB
  refine Ev.ite (fun h => ?_) fun h => ?_
  · rw [seq_t] at h
    rw [if_pos (show t.name = nNew from h)]
    refine Ev.some (kid_0 (hpos h)) (Ev.pure _)
  rw [seq_f] at h
  rw [if_neg (show ¬ t.name = nNew from h)]
  have key := ev_list (P := fun i => Ev (fun m k => ref09_agents_L m k i t.kind t.name t.sort t.kids) (agB (t.kids.drop i))) t.kids hl
    (fun hc => by
      refine Ev.loop ?_
      simp only [ref09_agents_l1, ref09_agents_s1]
      refine Ev.cf hc ?_
      exact Ev.ret (by rw [List.drop_length]; rfl))
    (fun i x hx hd hc hg hi hP => by
      refine Ev.loop ?_
      simp only [ref09_agents_l1, ref09_agents_s1]
      refine Ev.ct hc (Ev.some hg ?_)
      rw [hd, agB_cons, hi]
      refine Ev.ite (fun h => ?_) fun h => ?_
      · exact Ev.ret (by rw [show (x.kind == 3) = true from h]; rfl)
      rw [show (x.kind == 3) = false from h]
      refine Ev.some hg ?_
      refine Ev.ite (fun h' => ?_) fun h' => ?_
      · rw [bnt, ieq_f] at h'
        exact Ev.ret (by rw [show (x.sort != 1) = true from bne_iff_ne.2 h']; rfl)
      · rw [bnf, ieq_t] at h'
        rw [show (x.sort != 1) = false by rw [h']; rfl]
        exact hP)
  refine Ev.diag (L := fun m k => ref09_agents_L m k 0 t.kind t.name t.sort t.kids) ?_
  exact (key 0 (Nat.zero_le _)).res (by rw [List.drop_zero])
theorem rnodes_ev (t : T) : size t ≤ 1000000000 → Ev (fun m _ => ref09_nodes m t) (chkE t) := by
  induction t using T.ind with
  | h t ih =>
    intro hs
    refine Ev.succ ?_
    simp only [ref09_nodes_e, ref09_nodes_s0, re_eq]
    have hl := kids_lt t
    rw [chkE_eq]
    refine Ev.ite (fun h => ?_) fun h3 => ?_
    · rw [bnt, ieq_f] at h; exact Ev.ret (by rw [if_pos h])
    rw [bnf, ieq_t] at h3
    rw [if_neg (show ¬ t.kind ≠ 3 from fun hh => hh h3), ← chkRK_eq t h3]
    have key := ev_list (P := fun i => Ev (fun m k => ref09_nodes_L m (ref09_nodes m) k i t.kind t.name t.sort t.kids) (((t.kids.drop i).map chkE).foldl thn 0)) t.kids (by omega)
      (fun hc => by
        refine Ev.loop ?_
        simp only [ref09_nodes_l1, ref09_nodes_s1]
        refine Ev.cf hc ?_
        exact Ev.ret (by simp))
      (fun i x hx hd hc hg hi hP => by
        refine Ev.loop ?_
        simp only [ref09_nodes_l1, ref09_nodes_s1, re_eq]
        have hm := List.mem_of_getElem? hx
        have h1 := kid_lt t x hm
        refine Ev.ct hc (Ev.some hg (Ev.bind (ih x hm (by omega)) ?_))
        rw [hd, List.map_cons, foldl_thn_zero, hi]
        refine Ev.ite (fun h => ?_) fun h => ?_
        · rw [bnt, ieq_f] at h; exact Ev.ret (by rw [foldl_thn_ne _ h])
        · rw [bnf, ieq_t] at h; rw [h]; exact hP)
    have fin : chkRK t = 0 → Ev (fun m _ => ref09_nodes_L m (ref09_nodes m) m 0 t.kind t.name t.sort t.kids) ((t.kids.map chkE).foldl thn (chkRK t)) := fun h => by
      rw [h]
      exact (Ev.diag (L := fun m k => ref09_nodes_L m (ref09_nodes m) k 0 t.kind t.name t.sort t.kids) (key 0 (Nat.zero_le _))).res (by rw [List.drop_zero])
    unfold chkRK at fin ⊢
    refine Ev.bind (kind_ev t.name) ?_
    refine Ev.ite (fun h => ?_) fun h => ?_
    · rw [ieq_t] at h; rw [if_pos h]; exact Ev.ret (by rw [foldl_thn_ne _ (by decide)])
    rw [ieq_f] at h
    rw [if_neg h] at fin ⊢
    refine Ev.bind (fits_ev t) ?_
    cases hf : fitR symL t.name t.kids.length with
    | false =>
      refine Ev.ct rfl ?_
      rw [if_pos rfl]; exact Ev.ret (by rw [foldl_thn_ne _ (by decide)])
    | true =>
      rw [hf, if_neg (by decide)] at fin
      rw [if_neg (by decide)]
      refine Ev.cf rfl ?_
      refine Ev.ite (fun h2 => ?_) fun h2 => ?_
      · rw [ieq_t] at h2
        refine Ev.bind (agents_ev t (by omega) fun hn => ?_) ?_
        · obtain ⟨k1, k2, k3, k4, k5, k6, k7⟩ := symOf_kind h
          have h6 := k6 h2
          unfold fitR at hf
          rw [k1, k2, Bool.true_and, Bool.and_eq_true, decide_eq_true_iff] at hf
          omega
        cases ha : agentsB t with
        | false =>
          refine Ev.ct rfl ?_
          rw [if_pos ⟨h2, rfl⟩]
          exact Ev.ret (by rw [foldl_thn_ne _ (by decide)])
        | true =>
          rw [ha, if_neg (by rintro ⟨_, h⟩; cases h)] at fin
          rw [if_neg (by rintro ⟨_, h⟩; cases h)]
          exact Ev.cf rfl (fin rfl)
      · rw [ieq_f] at h2
        rw [if_neg (by rintro ⟨h, _⟩; exact h2 h)] at fin ⊢
        exact fin rfl
theorem rvth_ev (t : T) (hs : size t ≤ 1000000000) : Ev (fun m _ => ref09_Valid m t) (vthE t) := by
  refine Ev.succ ?_
  simp only [ref09_Valid_e, ref09_Valid_s0, re_eq]
  unfold vthE
  refine Ev.bind (rvalid_ev t hs) ?_
  refine Ev.ite (fun h => ?_) fun h => ?_
  · rw [bnt, ieq_f] at h; exact Ev.ret (by rw [thn_ne h])
  · rw [bnf, ieq_t] at h; rw [h]; exact Ev.bind (rnodes_ev t hs) (Ev.pure _)
end Go.AmYtmodnblfcikjlaaGreat
namespace Go.GxYtmodnblfcikjlaaGreat

def Asc (l : List T) : Prop := l.Pairwise fun a b => cmpT a b = -1
theorem cmpT_lt_irrefl {a : T} : cmpT a a ≠ -1 := by rw [cmpT_self]; decide
theorem cmpT_gt {a b : T} : cmpT a b = 1 ↔ cmpT b a = -1 := by
  have := cmpT_cmp.anti a b; omega
theorem cmpT_tr {a b c : T} (h1 : cmpT a b = -1) (h2 : cmpT b c = -1) : cmpT a c = -1 := cmpT_cmp.trans a b c h1 h2
theorem asc_cons {x : T} {l : List T} : Asc (x :: l) ↔ (∀ y ∈ l, cmpT x y = -1) ∧ Asc l := List.pairwise_cons
theorem asc_ext : ∀ (l m : List T), Asc l → Asc m → (∀ x, x ∈ l ↔ x ∈ m) → l = m
  | [], [], _, _, _ => rfl
  | [], y :: m, _, _, h => absurd ((h y).2 (List.mem_cons_self ..)) (by simp)
  | x :: l, [], _, _, h => absurd ((h x).1 (List.mem_cons_self ..)) (by simp)
  | x :: l, y :: m, hl, hm, h => by
    obtain ⟨hl1, hl2⟩ := asc_cons.1 hl
    obtain ⟨hm1, hm2⟩ := asc_cons.1 hm
    have hx := (h x).1 (List.mem_cons_self ..)
    have hy := (h y).2 (List.mem_cons_self ..)
    have e : x = y := by
      rcases List.mem_cons.1 hx with e | hx
      · exact e
      rcases List.mem_cons.1 hy with e | hy
      · exact e.symm
      exact absurd (cmpT_tr (hl1 y hy) (hm1 x hx)) cmpT_lt_irrefl
    subst e
    rw [asc_ext l m hl2 hm2 fun z => ?_]
    constructor
    · intro hz
      rcases List.mem_cons.1 ((h z).1 (List.mem_cons_of_mem _ hz)) with e | h'
      · subst e; exact absurd (hl1 z hz) cmpT_lt_irrefl
      · exact h'
    · intro hz
      rcases List.mem_cons.1 ((h z).2 (List.mem_cons_of_mem _ hz)) with e | h'
      · subst e; exact absurd (hm1 z hz) cmpT_lt_irrefl
      · exact h'

/-- The sum of ascending lists: what lies in one of both alone. -/
theorem plusX_spec (n : Nat) : ∀ (a b : List T), a.length + b.length ≤ n → Asc a → Asc b → Asc (plusX a b) ∧ (∀ x, x ∈ plusX a b ↔ ¬(x ∈ a ↔ x ∈ b)) := by
  induction n with
  | zero =>
    intro a b h _ _
    obtain rfl : a = [] := List.length_eq_zero_iff.1 (by omega)
    obtain rfl : b = [] := List.length_eq_zero_iff.1 (by omega)
    rw [plusX]
    exact ⟨List.Pairwise.nil, by simp⟩
  | succ n ih =>
    intro a b h ha hb
    match a, b with
    | [], b => rw [plusX]; exact ⟨hb, by simp⟩
    | x :: a, [] => rw [plusX]; exact ⟨ha, by simp [Classical.or_iff_not_imp_left]⟩
    | x :: a, y :: b =>
      rw [plusX]
      obtain ⟨ha1, ha2⟩ := asc_cons.1 ha
      obtain ⟨hb1, hb2⟩ := asc_cons.1 hb
      simp only [List.length_cons] at h
      by_cases h1 : cmpT x y = -1
      · rw [if_pos h1]
        obtain ⟨k1, k2⟩ := ih a (y :: b) (by simp; omega) ha2 hb
        have hxn : x ∉ y :: b := by
          intro h
          rcases List.mem_cons.1 h with e | h
          · subst e; exact cmpT_lt_irrefl h1
          · exact cmpT_lt_irrefl (cmpT_tr h1 (hb1 x h))
        have hxa : x ∉ a := fun h => cmpT_lt_irrefl (ha1 x h)
        refine ⟨asc_cons.2 ⟨fun z hz => ?_, k1⟩, fun z => ?_⟩
        · have := (k2 z).1 hz
          by_cases hza : z ∈ a
          · exact ha1 z hza
          · have hzb : z ∈ y :: b := by
              by_cases hzb : z ∈ y :: b
              · exact hzb
              · exact absurd ⟨fun h => absurd h hza, fun h => absurd h hzb⟩ this
            rcases List.mem_cons.1 hzb with e | h'
            · rw [e]; exact h1
            · exact cmpT_tr h1 (hb1 z h')
        · rw [List.mem_cons, k2, List.mem_cons (a := z) (b := x)]
          by_cases e : z = x
          · subst e
            simp [hxn]
          · simp [e]
      · rw [if_neg h1]
        by_cases h2 : cmpT x y = 1
        · rw [if_pos h2]
          have h3 := cmpT_gt.1 h2
          obtain ⟨k1, k2⟩ := ih (x :: a) b (by simp; omega) ha hb2
          have hyn : y ∉ x :: a := by
            intro h
            rcases List.mem_cons.1 h with e | h
            · subst e; exact cmpT_lt_irrefl h3
            · exact cmpT_lt_irrefl (cmpT_tr h3 (ha1 y h))
          have hyb : y ∉ b := fun h => cmpT_lt_irrefl (hb1 y h)
          refine ⟨asc_cons.2 ⟨fun z hz => ?_, k1⟩, fun z => ?_⟩
          · have := (k2 z).1 hz
            by_cases hzb : z ∈ b
            · exact hb1 z hzb
            · have hza : z ∈ x :: a := by
                by_cases hza : z ∈ x :: a
                · exact hza
                · exact absurd ⟨fun h => absurd h hza, fun h => absurd h hzb⟩ this
              rcases List.mem_cons.1 hza with e | h'
              · rw [e]; exact h3
              · exact cmpT_tr h3 (ha1 z h')
          · rw [List.mem_cons, k2, List.mem_cons (a := z) (b := y)]
            by_cases e : z = y
            · subst e
              simp [hyn]
            · simp [e]
        · rw [if_neg h2]
          have h3 : cmpT x y = 0 := by have := cmpT_cmp.rng x y; omega
          have e := cmpT_zero x y h3
          subst e
          obtain ⟨k1, k2⟩ := ih a b (by omega) ha2 hb2
          refine ⟨k1, fun z => ?_⟩
          rw [k2, List.mem_cons, List.mem_cons]
          by_cases e : z = x
          · subst e
            have : z ∉ a := fun h => cmpT_lt_irrefl (ha1 z h)
            have : z ∉ b := fun h => cmpT_lt_irrefl (hb1 z h)
            simp [*]
          · simp [e]
theorem plusX_asc {a b : List T} (ha : Asc a) (hb : Asc b) : Asc (plusX a b) := (plusX_spec _ a b (Nat.le_refl _) ha hb).1
theorem plusX_mem {a b : List T} (ha : Asc a) (hb : Asc b) (x : T) : x ∈ plusX a b ↔ ¬(x ∈ a ↔ x ∈ b) := (plusX_spec _ a b (Nat.le_refl _) ha hb).2 x
theorem foldPlus_asc : ∀ (ls : List (List T)) (a : List T), Asc a → (∀ l ∈ ls, Asc l) → Asc (ls.foldl plusX a)
  | [], _, h, _ => h
  | l :: ls, a, h, k => foldPlus_asc ls _ (plusX_asc h (k l (List.mem_cons_self ..))) fun m hm => k m (List.mem_cons_of_mem _ hm)
theorem sumsX_asc (t : T) : Asc (sumsX t) := by
  refine T.ind (P := fun t => Asc (sumsX t)) ?_ t
  intro t ih
  rw [sumsX_eq]
  split
  · exact List.Pairwise.nil
  · split
    · exact foldPlus_asc _ _ List.Pairwise.nil fun l hl => by
        obtain ⟨k, hk, rfl⟩ := List.mem_map.1 hl
        exact ih k hk
    · exact List.pairwise_singleton _ _
/-- The reference: a term put in, or taken out. -/
noncomputable def addS (t : T) (s : List T × Bool) (x : T) : List T × Bool :=
  if s.2 = false ∧ cmpT t x ≤ 0 then (s.1 ++ (if cmpT t x < 0 then [t] else []) ++ [x], true) else (s.1 ++ [x], s.2)
noncomputable def addR (l : List T) (t : T) : List T := if (l.foldl (addS t) ([], false)).2 then (l.foldl (addS t) ([], false)).1 else (l.foldl (addS t) ([], false)).1 ++ [t]
noncomputable def togR (l : List T) (t : T) : List T := if l.any (fun x => sameT x t) then l.filter (fun x => !sameT x t) else addR l t
noncomputable def plusR (a b : List T) : List T := b.foldl togR a
theorem addS_done (t : T) : ∀ (l out : List T), l.foldl (addS t) (out, true) = (out ++ l, true)
  | [], out => by simp
  | x :: l, out => by
    have e : addS t (out, true) x = (out ++ [x], true) := by simp [addS]
    rw [List.foldl_cons, e, addS_done t l]
    simp
noncomputable def insX : List T → T → List T
  | [], t => [t]
  | x :: l, t => if cmpT t x < 0 then t :: x :: l else if cmpT t x = 0 then x :: l else x :: insX l t
theorem addS_start (t : T) : ∀ (l out : List T), (if (l.foldl (addS t) (out, false)).2 then (l.foldl (addS t) (out, false)).1 else (l.foldl (addS t) (out, false)).1 ++ [t]) = out ++ insX l t
  | [], out => by simp [insX]
  | x :: l, out => by
    rw [List.foldl_cons]
    by_cases h : cmpT t x ≤ 0
    · have e : addS t (out, false) x = (out ++ (if cmpT t x < 0 then [t] else []) ++ [x], true) := by simp [addS, h]
      rw [e, addS_done, insX]
      by_cases h0 : cmpT t x < 0
      · simp [h0]
      · have : cmpT t x = 0 := by omega
        simp [this]
    · have e : addS t (out, false) x = (out ++ [x], false) := by simp [addS, h]
      rw [e, addS_start t l, insX, if_neg (by omega), if_neg (by omega)]
      simp
theorem addR_ins (l : List T) (t : T) : addR l t = insX l t := by
  have := addS_start t l []
  simpa [addR] using this
theorem insX_mem (t : T) : ∀ (l : List T) (x : T), x ∈ insX l t ↔ x ∈ l ∨ x = t
  | [], x => by simp [insX]
  | y :: l, x => by
    rw [insX]
    split
    · simp only [List.mem_cons]
      constructor
      · rintro (h | h | h) <;> simp [h]
      · rintro ((h | h) | h) <;> simp [h]
    · split
      · rename_i h
        have := cmpT_zero t y h
        subst this
        simp only [List.mem_cons]
        constructor
        · rintro (h | h) <;> simp [h]
        · rintro ((h | h) | h) <;> simp [h]
      · rw [List.mem_cons, insX_mem t l x, List.mem_cons]
        constructor
        · rintro (h | h | h) <;> simp [h]
        · rintro ((h | h) | h) <;> simp [h]
theorem insX_asc (t : T) : ∀ (l : List T), Asc l → Asc (insX l t)
  | [], _ => List.pairwise_singleton _ _
  | y :: l, h => by
    obtain ⟨h1, h2⟩ := asc_cons.1 h
    rw [insX]
    have hr := cmpT_cmp.rng t y
    split
    · have hlt : cmpT t y = -1 := by omega
      refine asc_cons.2 ⟨fun z hz => ?_, h⟩
      rcases List.mem_cons.1 hz with e | hz
      · rw [e]; exact hlt
      · exact cmpT_tr hlt (h1 z hz)
    · split
      · exact h
      · refine asc_cons.2 ⟨fun z hz => ?_, insX_asc t l h2⟩
        rcases (insX_mem t l z).1 hz with hz | e
        · exact h1 z hz
        · rw [e]; exact cmpT_gt.1 (by omega)
theorem sameT_iff {a b : T} : sameT a b = true ↔ a = b := by unfold sameT; exact decide_eq_true_iff
theorem togR_spec {l : List T} (h : Asc l) (t : T) : Asc (togR l t) ∧ ∀ x, x ∈ togR l t ↔ ¬(x ∈ l ↔ x = t) := by
  unfold togR
  by_cases hm : t ∈ l
  · have h1 : (l.any fun x => sameT x t) = true := List.any_eq_true.2 ⟨t, hm, sameT_iff.2 rfl⟩
    rw [if_pos h1]
    refine ⟨List.Pairwise.filter _ h, fun x => ?_⟩
    rw [List.mem_filter]
    by_cases e : x = t
    · subst e
      simp [hm, sameT_iff.2 rfl]
    · have : sameT x t = false := by
        cases hh : sameT x t
        · rfl
        · exact absurd (sameT_iff.1 hh) e
      simp [e, this]
  · rw [if_neg (fun hh => by
      obtain ⟨x, hx, he⟩ := List.any_eq_true.1 hh
      exact hm (by rw [← sameT_iff.1 he]; exact hx)), addR_ins]
    refine ⟨insX_asc t l h, fun x => ?_⟩
    rw [insX_mem]
    by_cases e : x = t
    · subst e; simp [hm]
    · simp [e]
theorem plusR_spec : ∀ (b a : List T), Asc a → Asc b → Asc (plusR a b) ∧ ∀ x, x ∈ plusR a b ↔ ¬(x ∈ a ↔ x ∈ b)
  | [], a, ha, _ => ⟨ha, fun x => by simp [plusR]⟩
  | y :: b, a, ha, hb => by
    obtain ⟨hb1, hb2⟩ := asc_cons.1 hb
    obtain ⟨k1, k2⟩ := togR_spec ha y
    obtain ⟨m1, m2⟩ := plusR_spec b (togR a y) k1 hb2
    refine ⟨m1, fun x => ?_⟩
    rw [show plusR a (y :: b) = plusR (togR a y) b from rfl, m2, k2, List.mem_cons]
    by_cases e : x = y
    · subst e
      have : x ∉ b := fun h => cmpT_lt_irrefl (hb1 x h)
      by_cases hx : x ∈ a <;> simp [this, hx]
    · by_cases hx : x ∈ a <;> by_cases hy : x ∈ b <;> simp [e, hx, hy]
/-- The reference's sum of ascending lists is the program's. -/
theorem plusR_eq {a b : List T} (ha : Asc a) (hb : Asc b) : plusR a b = plusX a b :=
  asc_ext _ _ (plusR_spec b a ha hb).1 (plusX_asc ha hb) fun x => by rw [(plusR_spec b a ha hb).2, plusX_mem ha hb]
end Go.GxYtmodnblfcikjlaaGreat
namespace Go.AmYtmodnblfcikjlaaGreat
open Go Go.GxYtmodnblfcikjlaaGreat Go.Lib
noncomputable def szL (l : List T) : Nat := (l.map size).sum
theorem szL_cons (x : T) (l : List T) : szL (x :: l) = size x + szL l := by simp [szL]
theorem szL_app (a b : List T) : szL (a ++ b) = szL a + szL b := by simp [szL]
theorem len_szL : ∀ l : List T, l.length ≤ szL l
  | [] => Nat.zero_le _
  | x :: l => by
    have := len_szL l
    have := size_pos x
    rw [szL_cons, List.length_cons]; omega
theorem mem_szL {l : List T} {x : T} (h : x ∈ l) : size x ≤ szL l := mem_le_sum l x h
theorem plusX_sz : ∀ (n : Nat) (a b : List T), a.length + b.length ≤ n → szL (plusX a b) ≤ szL a + szL b
  | _, [], b, _ => by rw [plusX]; omega
  | _, x :: a, [], _ => by rw [plusX]; omega
  | 0, x :: a, y :: b, h => by simp at h
  | n + 1, x :: a, y :: b, h => by
    simp only [List.length_cons] at h
    rw [plusX]
    split
    · have := plusX_sz n a (y :: b) (by simp; omega)
      rw [szL_cons, szL_cons]; omega
    · split
      · have := plusX_sz n (x :: a) b (by simp; omega)
        rw [szL_cons y, szL_cons y]; omega
      · have := plusX_sz n a b (by omega)
        rw [szL_cons, szL_cons]; omega
theorem foldPlus_sz : ∀ (ls : List (List T)) (a : List T), szL (ls.foldl plusX a) ≤ szL a + (ls.map szL).sum
  | [], _ => by simp
  | l :: ls, a => by
    have h1 := foldPlus_sz ls (plusX a l)
    have h2 := plusX_sz _ a l (Nat.le_refl _)
    simp only [List.foldl_cons, List.map_cons, List.sum_cons]
    omega
theorem sum_le_map (f g : T → Nat) : ∀ l : List T, (∀ k ∈ l, f k ≤ g k) → (l.map f).sum ≤ (l.map g).sum
  | [], _ => Nat.le_refl _
  | x :: l, h => by
    have h1 := h x (List.mem_cons_self ..)
    have h2 := sum_le_map f g l fun k hk => h k (List.mem_cons_of_mem _ hk)
    simp only [List.map_cons, List.sum_cons]; omega
theorem foldS_sz (l : List T) (h : ∀ k ∈ l, szL (sumsX k) ≤ size k) : szL ((l.map sumsX).foldl plusX []) ≤ szL l := by
  refine Nat.le_trans (foldPlus_sz _ _) ?_
  rw [List.map_map]
  have := sum_le_map (szL ∘ sumsX) size l h
  show 0 + _ ≤ (l.map size).sum
  omega
theorem sumsX_sz (t : T) : szL (sumsX t) ≤ size t := by
  refine T.ind (P := fun t => szL (sumsX t) ≤ size t) ?_ t
  intro t ih
  rw [sumsX_eq]
  split
  · exact Nat.zero_le _
  · split
    · have := foldS_sz t.kids ih
      have := size_eq t
      unfold szL at *; omega
    · show szL [t] ≤ _
      rw [szL_cons]; exact Nat.le_refl _
theorem partsX_sz (l : List T) : szL (partsX l) ≤ szL l := foldS_sz l fun k _ => sumsX_sz k
theorem lsub_one (x : T) (l : List T) : lsub (x :: l) 1 (((x :: l).length : Nat) : Int) = l := by
  unfold lsub
  rw [Int.toNat_natCast, List.take_length]; rfl
theorem inb_self (n : Nat) : inb (n : Int) n = true := by unfold inb; rw [decide_eq_true_iff]; omega
theorem inb_one (x : T) (l : List T) : inb 1 (Int.toNat (((x :: l).length : Nat) : Int)) = true := by
  unfold inb; rw [decide_eq_true_iff, Int.toNat_natCast, List.length_cons]; omega
theorem ilt_cons (x : T) (l : List T) : ilt 0 (((x :: l).length : Nat) : Int) = true := by rw [ilt_t, List.length_cons]; omega
theorem xplus_loop : ∀ (n : Nat) (a b acc : List T), a.length + b.length ≤ n → szL acc + szL a + szL b ≤ 1000000000 → Ev (fun m k => xor_plus_L m k a b acc) (acc ++ plusX a b) := by
  intro n
  induction n with
  | zero =>
    intro a b acc hn hs
    have : a = [] := List.eq_nil_of_length_eq_zero (by omega)
    subst this
    have : b = [] := List.eq_nil_of_length_eq_zero (by omega)
    subst this
    refine Ev.loop ?_
    simp only [xor_plus_l1, xor_plus_s1]
    have := len_szL acc
    exact Ev.cf rfl (Ev.ct (room_t (by simp only [List.length_nil]; omega) (by omega)) (Ev.ct (room_t (by simp only [List.length_nil, List.append_nil]; omega) (by omega)) (Ev.ret (by rw [plusX]; simp))))
  | succ n ih =>
    intro a b acc hn hs
    refine Ev.loop ?_
    simp only [xor_plus_l1, xor_plus_s1, re_eq]
    have h1 := len_szL acc
    have h2 := len_szL a
    have h3 := len_szL b
    cases a with
    | nil =>
      refine Ev.cf rfl (Ev.ct (room_t (by simp only [List.length_nil]; omega) (by omega)) (Ev.ct (room_t (by simp only [List.append_nil]; omega) (by omega)) (Ev.ret (by rw [plusX]; simp))))
    | cons x a =>
      refine Ev.ct (ilt_cons x a) ?_
      cases b with
      | nil =>
        refine Ev.cf rfl (Ev.ct (room_t (by omega) (by omega)) (Ev.ct (room_t (by rw [List.length_append]; simp only [List.length_nil]; omega) (by omega)) (Ev.ret (by rw [plusX]; simp))))
      | cons y b =>
        rw [szL_cons, szL_cons] at hs
        refine Ev.ct (ilt_cons y b) (Ev.some (lget_zero _) (Ev.some (lget_zero _) (Ev.bind (tcompare_ev x (by omega) y (by omega)) ?_)))
        rw [plusX]
        simp only [List.length_cons] at hn h2 h3
        rw [szL_cons] at h2 h3
        refine Ev.ite (fun hc => ?_) fun hc => ?_
        · rw [ilt_t] at hc
          have hc : cmpT x y = -1 := by rcases cmpT_cmp.rng x y with h | h | h <;> omega
          rw [if_pos hc]
          refine Ev.some (lget_zero _) (Ev.ct (room_t (by omega) (by omega)) (Ev.ct (inb_self _) (Ev.ct (inb_one x a) ?_)))
          rw [lsub_one]
          refine (ih a (y :: b) (acc ++ [x]) (by simp only [List.length_cons]; omega) (by rw [szL_app, szL_cons, szL_cons]; show szL acc + (size x + 0) + _ + _ ≤ _; omega)).res (by simp)
        · rw [ilt_f] at hc
          rw [if_neg (by omega)]
          refine Ev.ite (fun hd => ?_) fun hd => ?_
          · rw [ilt_t] at hd
            have hd : cmpT x y = 1 := by rcases cmpT_cmp.rng x y with h | h | h <;> omega
            rw [if_pos hd]
            refine Ev.some (lget_zero _) (Ev.ct (room_t (by omega) (by omega)) (Ev.ct (inb_self _) (Ev.ct (inb_one y b) ?_)))
            rw [lsub_one]
            refine (ih (x :: a) b (acc ++ [y]) (by simp only [List.length_cons]; omega) (by rw [szL_app, szL_cons, szL_cons]; show szL acc + (size y + 0) + _ + _ ≤ _; omega)).res (by simp)
          · rw [ilt_f] at hd
            rw [if_neg (by omega)]
            refine Ev.ct (inb_self _) (Ev.ct (inb_one x a) (Ev.ct (inb_self _) (Ev.ct (inb_one y b) ?_)))
            rw [lsub_one, lsub_one]
            exact ih a b acc (by omega) (by omega)
theorem xplus_ev (a b : List T) (hs : szL a + szL b ≤ 1000000000) : Ev (fun m _ => xor_plus m a b) (plusX a b) := by
  refine Ev.succ ?_
  simp only [xor_plus_e, xor_plus_s0]
  refine Ev.diag (L := fun m k => xor_plus_L m k a b []) ?_
  exact xplus_loop _ a b [] (Nat.le_refl _) (by show 0 + _ + _ ≤ _; omega)
theorem szL_take_le (l : List T) (i : Nat) : szL (l.take i) ≤ szL l := by
  have := congrArg szL (List.take_append_drop i l)
  rw [szL_app] at this; omega
theorem szL_take_succ {l : List T} {i : Nat} {x : T} (h : l[i]? = some x) : szL (l.take i) + size x ≤ szL l := by
  have h1 : l.take (i + 1) = l.take i ++ [x] := by rw [List.take_add_one, h]; rfl
  have h2 := szL_take_le l (i + 1)
  rw [h1, szL_app, szL_cons] at h2
  have : szL ([] : List T) = 0 := rfl
  omega
theorem parts_take {l : List T} {i : Nat} {x : T} (h : l[i]? = some x) : ((l.take (i + 1)).map sumsX).foldl plusX [] = plusX (((l.take i).map sumsX).foldl plusX []) (sumsX x) := by
  rw [List.take_add_one, h, List.map_append, List.foldl_append]; rfl
theorem xsums_ev (t : T) : size t ≤ 1000000000 → Ev (fun m _ => xor_summands m t) (sumsX t) := by
  induction t using T.ind with
  | h t ih =>
    intro hs
    have hl := kids_lt t
    have hz := size_eq t
    refine Ev.succ ?_
    simp only [xor_summands_e, xor_summands_s0, re_eq]
    have key := ev_list (P := fun i => Ev (fun m k => xor_summands_L m (xor_summands m) k (((t.kids.take i).map sumsX).foldl plusX []) t.kids t.kids.length i) ((t.kids.map sumsX).foldl plusX [])) t.kids (by omega)
      (fun hc => by
        refine Ev.loop ?_
        simp only [xor_summands_l1, xor_summands_s1]
        refine Ev.cf hc ?_
        rw [List.take_length]
        exact Ev.pure _)
      (fun i x hx hd hc hg hi hP => by
        refine Ev.loop ?_
        simp only [xor_summands_l1, xor_summands_s1, re_eq]
        have hm := List.mem_of_getElem? hx
        have h1 := kid_lt t x hm
        have h2 := partsX_sz (t.kids.take i)
        have h3 := szL_take_succ hx
        have h4 := sumsX_sz x
        refine Ev.ct hc (Ev.some hg (Ev.bind (ih x hm (by omega)) (Ev.bind (xplus_ev _ _ ?_) ?_)))
        · unfold partsX at h2; unfold szL at *; omega
        · rw [hi]
          refine hP.congr fun m k => ?_
          rw [parts_take hx])
    have main : Ev (fun m _ => xor_summands_L m (xor_summands m) m [] t.kids t.kids.length 0) ((t.kids.map sumsX).foldl plusX []) :=
      Ev.diag (L := fun m k => xor_summands_L m (xor_summands m) k [] t.kids t.kids.length 0) (key 0 (Nat.zero_le _))
    rw [sumsX_eq]
    by_cases h3 : t.kind = 3
    · have hk : ieq t.kind 3 = true := ieq_t.2 h3
      refine Ev.ct hk ?_
      refine Ev.ite (fun hn => ?_) fun hn => ?_
      · rw [seq_t] at hn
        have hnz : isN t nZero = true := isN_t.2 ⟨h3, hn⟩
        have hnx : isN t nXor = false := by
          rw [← Bool.not_eq_true, isN_t]; rintro ⟨_, h⟩; rw [hn] at h; exact absurd h (by decide)
        refine Ev.ite (fun he => ?_) fun he => ?_
        · rw [ieq_t] at he
          have he : t.kids = [] := List.eq_nil_of_length_eq_zero (by omega)
          rw [hnz, he]
          exact Ev.pure _
        · rw [ieq_f] at he
          have he : t.kids.isEmpty = false := by
            cases hh : t.kids with
            | nil => rw [hh] at he; exact absurd rfl he
            | cons _ _ => rfl
          rw [hnz, he, hnx]
          exact Ev.ct hk (Ev.cf (by rw [hn]; rfl) (Ev.pure _))
      · have hn' := seq_f.1 hn
        have hnz : isN t nZero = false := by
          rw [← Bool.not_eq_true, isN_t]; rintro ⟨_, h⟩; exact hn' h
        rw [hnz]
        refine Ev.ct hk (Ev.ite (fun hx => ?_) fun hx => ?_)
        · rw [show isN t nXor = true from isN_t.2 ⟨h3, seq_t.1 hx⟩]
          exact main
        · have hnx : isN t nXor = false := by
            rw [← Bool.not_eq_true, isN_t]; rintro ⟨_, h⟩; exact seq_f.1 hx h
          rw [hnx]
          exact Ev.pure _
    · have hk : ieq t.kind 3 = false := ieq_f.2 h3
      have hnn : ∀ n, isN t n = false := fun n => by
        rw [← Bool.not_eq_true, isN_t]; rintro ⟨h, _⟩; exact h3 h
      rw [hnn, hnn]
      exact Ev.cf hk (Ev.cf hk (Ev.pure _))
end Go.AmYtmodnblfcikjlaaGreat
namespace Go.AmYtmodnblfcikjlaaGreat
open Go Go.GxYtmodnblfcikjlaaGreat
theorem concat_ev (ls : List (List T)) (hn : ls.length < 1000) (h : (ls.map List.length).sum ≤ 100000000) : Ev (fun m _ => slices_Concat_api_Term_api_Term m ls) ls.flatten := by
  have hfl : ∀ l : List (List T), l.flatten.length = (l.map List.length).sum := fun l => List.length_flatten
  have k2 := ev_list (P := fun i => Ev (fun m k => (slices_Concat_api_Term_api_Term_L m k).2 ls ls.length i (ls.take i).flatten) ls.flatten) ls (by omega)
    (fun hc => by
      refine Ev.loop ?_
      simp only [slices_Concat_api_Term_api_Term_l2, slices_Concat_api_Term_api_Term_s2]
      refine Ev.cf hc ?_
      rw [List.take_length]
      exact Ev.pure _)
    (fun i x hx hd hc hg hi hP => by
      refine Ev.loop ?_
      simp only [slices_Concat_api_Term_api_Term_l2, slices_Concat_api_Term_api_Term_s2]
      have ht : ls.take (i + 1) = ls.take i ++ [x] := by rw [List.take_add_one, hx]; rfl
      have hs : ((ls.take (i + 1)).map List.length).sum ≤ (ls.map List.length).sum := by
        have := congrArg (fun l => (l.map List.length).sum) (List.take_append_drop (i + 1) ls)
        simp only [List.map_append, List.sum_append] at this
        omega
      rw [ht] at hs
      simp only [List.map_append, List.sum_append, List.map_cons, List.map_nil, List.sum_cons, List.sum_nil] at hs
      refine Ev.ct hc (Ev.some hg (Ev.ct (room_t ?_ (by omega)) ?_))
      · rw [hfl]; omega
      · rw [hi]
        refine hP.congr fun m k => ?_
        rw [ht, List.flatten_append]; simp)
  have k1 := ev_list (P := fun i => ∀ n : Nat, n + ((ls.drop i).map List.length).sum ≤ 100000000 → Ev (fun m k => (slices_Concat_api_Term_api_Term_L m k).1 ls n ls ls.length i) ls.flatten) ls (by omega)
    (fun hc n hn => by
      refine Ev.loop ?_
      simp only [slices_Concat_api_Term_api_Term_l1, slices_Concat_api_Term_api_Term_s1]
      refine Ev.cf hc (Ev.some (a := ((), [], ())) ?_ (k2 0 (Nat.zero_le _)))
      unfold slices_Grow_api_Term_api_Term
      rw [show inb (n : Int) 100000000 = true from by unfold inb; rw [decide_eq_true_iff]; omega]
      rfl)
    (fun i x hx hd hc hg hi hP n hn => by
      refine Ev.loop ?_
      simp only [slices_Concat_api_Term_api_Term_l1, slices_Concat_api_Term_api_Term_s1]
      rw [hd, List.map_cons, List.sum_cons] at hn
      refine Ev.ct hc (Ev.some hg ?_)
      rw [iadd_nat, iw_id (by omega)]
      refine Ev.cf (ilt_f.2 (by omega)) ?_
      rw [hi]
      exact hP (n + x.length) (by omega))
  refine Ev.succ ?_
  simp only [slices_Concat_api_Term_api_Term_e, slices_Concat_api_Term_api_Term_s0]
  refine Ev.diag (L := fun m k => (slices_Concat_api_Term_api_Term_L m k).1 ls 0 ls ls.length 0) ?_
  exact k1 0 (Nat.zero_le _) 0 (by rw [List.drop_zero]; omega)
theorem concat2_ev (a b : List T) (h : a.length + b.length ≤ 100000000) : Ev (fun m _ => slices_Concat_api_Term_api_Term m [a, b]) (a ++ b) :=
  (concat_ev [a, b] (by simp) (by simpa using h)).res (by simp)
theorem foldThn_drop {f : T → Int} {l : List T} {i : Nat} {x : T} (h : l.drop i = x :: l.drop (i + 1)) : ((l.drop i).map f).foldl thn 0 = if f x ≠ 0 then f x else ((l.drop (i + 1)).map f).foldl thn 0 := by
  rw [h, List.map_cons]
  by_cases hx : f x = 0
  · rw [if_neg (by simpa using hx), hx]; rfl
  · rw [if_pos hx]
    exact foldl_thn_ne _ hx
/-- The first error of a list. -/
theorem right_ev (l : List T) (hs : szL l ≤ 100000000) : Ev (fun m _ => xor_right m l []) (rightE l) := by
  have hl := len_szL l
  refine Ev.succ ?_
  simp only [xor_right_e, xor_right_s0]
  unfold rightE
  refine Ev.ite (fun h => ?_) fun h => ?_
  · rw [ilt_t] at h
    rw [if_pos (by omega)]
    exact Ev.pure _
  · rw [ilt_f] at h
    rw [if_neg (by omega)]
    refine Ev.bind (concat2_ev l [] (by simp only [List.length_nil]; omega)) ?_
    rw [List.append_nil]
    have key := ev_list (P := fun i => Ev (fun m k => xor_right_L m k l l.length i) (((l.drop i).map validE).foldl thn 0)) l (by omega)
      (fun hc => by
        refine Ev.loop ?_
        simp only [xor_right_l1, xor_right_s1]
        refine Ev.cf hc ?_
        rw [List.drop_length]
        exact Ev.pure _)
      (fun i x hx hd hc hg hi hP => by
        refine Ev.loop ?_
        simp only [xor_right_l1, xor_right_s1, re_eq]
        have h1 := mem_szL (List.mem_of_getElem? hx)
        rw [foldThn_drop hd]
        refine Ev.ct hc (Ev.some hg (Ev.bind (tvalid_ev x (by omega)) (Ev.ite (fun hv => ?_) fun hv => ?_)))
        · rw [bnt, ieq_f] at hv
          rw [if_pos hv]
          exact Ev.pure _
        · rw [bnf, ieq_t] at hv
          rw [if_neg (by omega), hi]
          exact hP)
    refine Ev.diag (L := fun m k => xor_right_L m k l l.length 0) ?_
    exact (key 0 (Nat.zero_le _)).res (by rw [List.drop_zero])
theorem replace_ev (t : T) (hs : size t ≤ 1000000000) : Ev (fun m _ => term_Replace m t [] t) (t, 0) := by
  refine Ev.succ ?_
  simp only [term_Replace_e, term_Replace_s0, re_eq]
  refine Ev.bind (clone_ev t hs) ?_
  refine Ev.diag (L := fun m k => term_Replace_L m k [] ([] : List Int).length 0 t.kind t.name t.sort t.kids 0 [] 0 t.kind t.name t.sort t.kids []) (Ev.loop ?_)
  simp only [term_Replace_l1, term_Replace_s1, re_eq]
  refine Ev.cf rfl ?_
  rw [show T.mk t.kind t.name t.sort t.kids = t from re_eq t]
  exact Ev.bind (clone_ev t hs) (Ev.pure _)
/-- A list of which the first i are done. -/
def ownL (l : List T) (i : Nat) : List T := l.take i ++ List.replicate (l.length - i) zT
theorem ownL_get {l : List T} {i : Nat} (h : i < l.length) : (ownL l i)[i]? = some zT := by
  unfold ownL
  rw [List.getElem?_append_right (by rw [List.length_take]; omega), List.length_take, List.getElem?_replicate, if_pos (by omega)]
theorem ownL_set {l : List T} {i : Nat} {x : T} (h : l[i]? = some x) : (ownL l i).set i x = ownL l (i + 1) := by
  have hi := (List.getElem?_eq_some_iff.1 h).1
  unfold ownL
  have h1 : l.take (i + 1) = l.take i ++ [x] := by rw [List.take_add_one, h]; rfl
  have h2 : List.replicate (l.length - i) zT = zT :: List.replicate (l.length - (i + 1)) zT := by
    rw [show l.length - i = (l.length - (i + 1)) + 1 by omega, List.replicate_succ]
  rw [h1, h2, List.set_append_right _ _ (by rw [List.length_take]; omega), List.length_take, show i - min i l.length = 0 by omega, List.set_cons_zero, List.append_assoc]; rfl
theorem ownL_set2 {l : List T} {i : Nat} {x : T} (h : l[i]? = some x) : (ownL l (i + 1)).set i x = ownL l (i + 1) := by
  rw [← ownL_set h, List.set_set]
theorem ownL_get2 {l : List T} {i : Nat} {x : T} (h : l[i]? = some x) : (ownL l (i + 1))[i]? = some x := by
  have hi := (List.getElem?_eq_some_iff.1 h).1
  rw [← ownL_set h, List.getElem?_set_self (by unfold ownL; rw [List.length_append, List.length_take, List.length_replicate]; omega)]
theorem lset_nat {α : Type} (l : List α) (i : Nat) (v : α) : lset l (i : Int) v = l.set i v := by
  unfold lset
  rw [if_pos (by omega), Int.toNat_natCast]
theorem xown_ev : ∀ (n : Nat) (l : List T), szL l ≤ n → n ≤ 1000000 → Ev (fun m _ => xor_own m l) l := by
  intro n
  induction n using Nat.strongRecOn with
  | _ n ih =>
  intro l hs hn
  have hl := len_szL l
  refine Ev.succ ?_
  simp only [xor_own_e, xor_own_s0]
  have key := ev_list (P := fun i => Ev (fun m k => xor_own_L m (xor_own m) k l l.length i (ownL l i)) l) l (by omega)
    (fun hc => by
      refine Ev.loop ?_
      simp only [xor_own_l1, xor_own_s1]
      refine Ev.cf hc ?_
      exact Ev.ret (by unfold ownL; rw [List.take_length, Nat.sub_self]; simp))
    (fun i x hx hd hc hg hi hP => by
      refine Ev.loop ?_
      simp only [xor_own_l1, xor_own_s1, re_eq]
      have h1 := mem_szL (List.mem_of_getElem? hx)
      have h2 := size_eq x
      have hib := (List.getElem?_eq_some_iff.1 hx).1
      have e : lset (ownL l i) i x = ownL l (i + 1) := by rw [lset_nat, ownL_set hx]
      have e2 : lset (ownL l (i + 1)) i x = ownL l (i + 1) := by rw [lset_nat, ownL_set2 hx]
      have g : lget (ownL l (i + 1)) i = some x := by rw [lget_nat, ownL_get2 hx]
      refine Ev.ct hc (Ev.some hg (Ev.bind (replace_ev x (by omega)) (Ev.some (a := zT) (by rw [lget_nat, ownL_get hib]) (Ev.bind (ih (szL x.kids) (by unfold szL at *; omega) x.kids (Nat.le_refl _) (by unfold szL at *; omega)) ?_))))
      rw [e]
      refine Ev.some g ?_
      rw [show T.mk x.kind x.name x.sort x.kids = x from re_eq x, e2, hi]
      refine Ev.ite (fun hk => ?_) fun hk => hP
      rw [ieq_t] at hk
      have hk : x.kids = [] := List.eq_nil_of_length_eq_zero (by omega)
      refine Ev.some g ?_
      rw [show T.mk x.kind x.name x.sort [] = x from by rw [← hk]; exact re_eq x, e2]
      exact hP)
  refine Ev.ct (by unfold mroom; rw [decide_eq_true_iff, Int.toNat_natCast]; omega) ?_
  refine Ev.diag (L := fun m k => xor_own_L m (xor_own m) k l l.length 0 (List.replicate (Int.toNat (l.length : Int)) (T.mk 0 [] 0 []))) ?_
  refine (key 0 (Nat.zero_le _)).congr fun m k => ?_
  unfold ownL
  rw [List.take_zero, Int.toNat_natCast]; rfl
theorem xsum_ev (l : List T) (hs : szL l ≤ 900000) : Ev (fun m _ => xor_Sum m l) (sumX l) := by
  have hl := len_szL l
  refine Ev.succ ?_
  simp only [xor_Sum_e, xor_Sum_s0]
  unfold sumX
  refine Ev.bind (right_ev l (by omega)) (Ev.ite (fun h => ?_) fun h => ?_)
  · rw [bnt, ieq_f] at h
    rw [if_pos h]
    exact Ev.pure _
  · rw [bnf, ieq_t] at h
    rw [if_neg (by omega)]
    have key := ev_list (P := fun i => Ev (fun m k => xor_Sum_L m k (((l.take i).map sumsX).foldl plusX []) l l.length i 0 [] 0 []) (if validE (outX (partsX l)) ≠ 0 then (zT, 3) else (outX (partsX l), 0))) l (by omega)
      (fun hc => by
        refine Ev.loop ?_
        simp only [xor_Sum_l1, xor_Sum_s1, re_eq]
        refine Ev.cf hc ?_
        rw [List.take_length]
        have h1 := partsX_sz l
        show Ev (fun m k => obind (xor_own m (partsX l)) _) _
        have h2 := len_szL (partsX l)
        have fin : ∀ u : T, u = outX (partsX l) → Ev (fun m _ => obind (term_Valid m u) fun v => cond (bnot (ieq v 0)) (some (T.mk 0 [] 0 [], (3 : Int))) (some (u, 0))) (if validE (outX (partsX l)) ≠ 0 then (zT, 3) else (outX (partsX l), 0)) := by
          intro u hu
          have hz : size (outX (partsX l)) ≤ 1 + szL (partsX l) := by
            unfold outX
            split
            · rw [size_eq]; show 1 + 0 ≤ _; omega
            · split
              · rename_i _ h1l
                have : (partsX l).getD 0 zT ∈ partsX l := by
                  cases hh : partsX l with
                  | nil => rw [hh] at h1l; cases h1l
                  | cons x r => exact List.mem_cons_self ..
                have := mem_szL this; omega
              · rw [size_eq]; exact Nat.le_refl _
          subst hu
          refine Ev.bind (tvalid_ev _ (by omega)) (Ev.ite (fun h => ?_) fun h => ?_)
          · rw [bnt, ieq_f] at h
            rw [if_pos h]; exact Ev.pure _
          · rw [bnf, ieq_t] at h
            rw [if_neg (by omega)]; exact Ev.pure _
        refine Ev.bind (xown_ev _ (partsX l) (Nat.le_refl _) (by omega)) (Ev.ite (fun h0 => ?_) fun h0 => ?_)
        · rw [ieq_t] at h0
          exact fin _ (by unfold outX; rw [if_pos (by omega)]; rfl)
        · rw [ieq_f] at h0
          refine Ev.ite (fun h1 => ?_) fun h1 => ?_
          · rw [ieq_t] at h1
            refine Ev.some (a := (partsX l).getD 0 zT) ?_ (fin _ (by unfold outX; rw [if_neg (by omega), if_pos (by omega)]))
            rw [lget_zero, List.getD_eq_getElem?_getD]
            cases hh : partsX l with
            | nil => rw [hh] at h1; simp at h1
            | cons x r => rfl
          · rw [ieq_f] at h1
            exact fin _ (by unfold outX; rw [if_neg (by omega), if_neg (by omega)]; rfl))
      (fun i x hx hd hc hg hi hP => by
        refine Ev.loop ?_
        simp only [xor_Sum_l1, xor_Sum_s1, re_eq]
        have hm := List.mem_of_getElem? hx
        have h1 := mem_szL hm
        have h2 := partsX_sz (l.take i)
        have h3 := szL_take_succ hx
        have h4 := sumsX_sz x
        refine Ev.ct hc (Ev.some hg (Ev.bind (xsums_ev x (by omega)) (Ev.bind (xplus_ev _ _ ?_) ?_)))
        · unfold partsX at h2; omega
        · rw [hi]
          refine hP.congr fun m k => ?_
          rw [parts_take hx])
    refine Ev.diag (L := fun m k => xor_Sum_L m k [] l l.length 0 0 [] 0 []) ?_
    exact key 0 (Nat.zero_le _)
end Go.AmYtmodnblfcikjlaaGreat
namespace Go.AmYtmodnblfcikjlaaGreat
open Go Go.GxYtmodnblfcikjlaaGreat
theorem has_ev (l : List T) (t : T) (hs : szL l + size t ≤ 1000000000) : Ev (fun m _ => ref01_Has m l t) (l.any fun x => sameT x t) := by
  have hl := len_szL l
  refine Ev.succ ?_
  simp only [ref01_Has_e, ref01_Has_s0]
  have key := ev_list (P := fun i => Ev (fun m k => ref01_Has_L m k l i t.kind t.name t.sort t.kids) ((l.drop i).any fun x => sameT x t)) l (by omega)
    (fun hc => by
      refine Ev.loop ?_
      simp only [ref01_Has_l1, ref01_Has_s1]
      refine Ev.cf hc (Ev.ret ?_)
      rw [List.drop_length]; rfl)
    (fun i x hx hd hc hg hi hP => by
      refine Ev.loop ?_
      simp only [ref01_Has_l1, ref01_Has_s1, re_eq]
      have h1 := mem_szL (List.mem_of_getElem? hx)
      rw [hd, List.any_cons, show T.mk t.kind t.name t.sort t.kids = t from re_eq t]
      refine Ev.ct hc (Ev.some hg (Ev.bind (rsame_ev x t (by omega) (by omega)) (Ev.ite (fun h => ?_) fun h => ?_)))
      · rw [h]; exact Ev.pure _
      · rw [h, hi]; exact hP)
  refine Ev.diag (L := fun m k => ref01_Has_L m k l 0 t.kind t.name t.sort t.kids) ?_
  exact (key 0 (Nat.zero_le _)).res (by rw [List.drop_zero])
theorem addS_len (t : T) : ∀ (l : List T) (s : List T × Bool), (l.foldl (addS t) s).1.length ≤ s.1.length + 2 * l.length
  | [], s => by simp
  | x :: l, s => by
    have h := addS_len t l (addS t s x)
    have : (addS t s x).1.length ≤ s.1.length + 2 := by
      unfold addS
      split
      · simp only [List.length_append, List.length_cons, List.length_nil]
        split <;> simp
      · simp
    rw [List.foldl_cons, List.length_cons]; omega
theorem add_ev (l : List T) (t : T) (hs : szL l + size t ≤ 1000000000) : Ev (fun m _ => ref01_Add m l t) (addR l t) := by
  have hl := len_szL l
  refine Ev.succ ?_
  simp only [ref01_Add_e, ref01_Add_s0]
  have hlen : ∀ i, ((l.take i).foldl (addS t) ([], false)).1.length ≤ 2 * l.length := fun i => by
    have := addS_len t (l.take i) ([], false)
    have h2 : (l.take i).length ≤ l.length := by rw [List.length_take]; omega
    simp only [List.length_nil] at this; omega
  have key := ev_list (P := fun i => Ev (fun m k => ref01_Add_L m k l ((l.take i).foldl (addS t) ([], false)).2 i t.kind t.name t.sort t.kids ((l.take i).foldl (addS t) ([], false)).1) (addR l t)) l (by omega)
    (fun hc => by
      refine Ev.loop ?_
      simp only [ref01_Add_l1, ref01_Add_s1]
      refine Ev.cf hc ?_
      rw [List.take_length]
      unfold addR
      have := hlen l.length
      rw [List.take_length] at this
      refine Ev.ite (fun h => ?_) fun h => ?_
      · rw [bnt] at h
        rw [if_neg (by rw [h]; decide), show T.mk t.kind t.name t.sort t.kids = t from re_eq t]
        exact Ev.ct (room_t (by omega) (by omega)) (Ev.pure _)
      · rw [bnf] at h
        rw [if_pos h]
        exact Ev.pure _)
    (fun i x hx hd hc hg hi hP => by
      refine Ev.loop ?_
      simp only [ref01_Add_l1, ref01_Add_s1, re_eq]
      have h1 := mem_szL (List.mem_of_getElem? hx)
      have h2 := hlen i
      have hstep : (l.take (i + 1)).foldl (addS t) ([], false) = addS t ((l.take i).foldl (addS t) ([], false)) x := by
        rw [List.take_add_one, hx, List.foldl_append]; rfl
      rw [hstep] at hP
      generalize (l.take i).foldl (addS t) ([], false) = s at *
      rw [show T.mk t.kind t.name t.sort t.kids = t from re_eq t, hi]
      refine Ev.ct hc (Ev.some hg (Ev.bind (rcompare_ev t (by omega) x (by omega)) (Ev.ite (fun h => ?_) fun h => ?_)))
      · rw [bnt] at h
        refine Ev.ite (fun hc1 => ?_) fun hc1 => ?_
        · rw [ile_t] at hc1
          unfold addS at hP
          rw [if_pos ⟨h, hc1⟩] at hP
          refine Ev.ite (fun hc2 => ?_) fun hc2 => ?_
          · rw [ilt_t] at hc2
            rw [if_pos hc2] at hP
            exact Ev.ct (room_t (by omega) (by omega)) (Ev.some hg (Ev.ct (room_t (by rw [List.length_append]; simp only [List.length_cons, List.length_nil]; omega) (by omega)) hP))
          · rw [ilt_f] at hc2
            rw [if_neg (by omega), List.append_nil] at hP
            exact Ev.some hg (Ev.ct (room_t (by omega) (by omega)) hP)
        · rw [ile_f] at hc1
          unfold addS at hP
          rw [if_neg (by omega)] at hP
          exact Ev.some hg (Ev.ct (room_t (by omega) (by omega)) hP)
      · rw [bnf] at h
        unfold addS at hP
        rw [if_neg (by rw [h]; intro hh; cases hh.1)] at hP
        exact Ev.some hg (Ev.ct (room_t (by omega) (by omega)) hP))
  refine Ev.diag (L := fun m k => ref01_Add_L m k l false 0 t.kind t.name t.sort t.kids []) ?_
  exact key 0 (Nat.zero_le _)
theorem tog_ev (l : List T) (t : T) (hs : szL l + size t ≤ 1000000000) : Ev (fun m _ => ref08_toggle m l t) (togR l t) := by
  have hl := len_szL l
  refine Ev.succ ?_
  simp only [ref08_toggle_e, ref08_toggle_s0, re_eq]
  unfold togR
  refine Ev.bind (has_ev l t hs) (Ev.ite (fun h => ?_) fun h => ?_)
  · rw [bnt] at h
    rw [if_neg (by rw [h]; decide)]
    exact Ev.bind (add_ev l t hs) (Ev.pure _)
  · rw [bnf] at h
    rw [if_pos h]
    have key := ev_list (P := fun i => Ev (fun m k => ref08_toggle_L m k l i t.kind t.name t.sort t.kids ((l.take i).filter fun x => !sameT x t)) (l.filter fun x => !sameT x t)) l (by omega)
      (fun hc => by
        refine Ev.loop ?_
        simp only [ref08_toggle_l1, ref08_toggle_s1]
        refine Ev.cf hc ?_
        rw [List.take_length]
        exact Ev.pure _)
      (fun i x hx hd hc hg hi hP => by
        refine Ev.loop ?_
        simp only [ref08_toggle_l1, ref08_toggle_s1, re_eq]
        have h1 := mem_szL (List.mem_of_getElem? hx)
        have h2 : ((l.take i).filter fun x => !sameT x t).length ≤ l.length := Nat.le_trans (List.length_filter_le _ _) (by rw [List.length_take]; omega)
        rw [List.take_add_one, hx, List.filter_append] at hP
        rw [show T.mk t.kind t.name t.sort t.kids = t from re_eq t, hi]
        refine Ev.ct hc (Ev.some hg (Ev.bind (rsame_ev x t (by omega) (by omega)) (Ev.ite (fun h => ?_) fun h => ?_)))
        · rw [bnt] at h
          have e : (Option.some x).toList.filter (fun x => !sameT x t) = [x] := by show [x].filter _ = _; simp [h]
          rw [e] at hP
          exact Ev.some hg (Ev.ct (room_t (by omega) (by omega)) hP)
        · rw [bnf] at h
          have e : (Option.some x).toList.filter (fun x => !sameT x t) = [] := by show [x].filter _ = _; simp [h]
          rw [e, List.append_nil] at hP
          exact hP)
    refine Ev.diag (L := fun m k => ref08_toggle_L m k l 0 t.kind t.name t.sort t.kids []) ?_
    exact key 0 (Nat.zero_le _)
theorem insX_sz (t : T) : ∀ l : List T, szL (insX l t) ≤ szL l + size t
  | [] => by rw [insX, szL_cons]; omega
  | x :: l => by
    have := insX_sz t l
    rw [insX]
    split
    · rw [szL_cons, szL_cons]; omega
    · split
      · omega
      · rw [szL_cons, szL_cons]; omega
theorem filter_sz (p : T → Bool) : ∀ l : List T, szL (l.filter p) ≤ szL l
  | [] => Nat.le_refl _
  | x :: l => by
    have := filter_sz p l
    rw [List.filter_cons]
    split
    · rw [szL_cons, szL_cons]; omega
    · rw [szL_cons]; omega
theorem togR_sz (l : List T) (t : T) : szL (togR l t) ≤ szL l + size t := by
  unfold togR
  split
  · exact Nat.le_trans (filter_sz _ l) (by omega)
  · rw [addR_ins]; exact insX_sz t l
theorem foldTog_sz : ∀ (b a : List T), szL (b.foldl togR a) ≤ szL a + szL b
  | [], a => by simp [szL]
  | x :: b, a => by
    have h1 := foldTog_sz b (togR a x)
    have h2 := togR_sz a x
    rw [List.foldl_cons, szL_cons]; omega
theorem rplus_ev (a b : List T) (hs : szL a + szL b ≤ 1000000000) : Ev (fun m _ => ref08_Plus m a b) (plusR a b) := by
  have h1 := len_szL a
  have h2 := len_szL b
  refine Ev.succ ?_
  simp only [ref08_Plus_e, ref08_Plus_s0]
  have key := ev_list (P := fun i => Ev (fun m k => ref08_Plus_L m k b ((b.take i).foldl togR a) i) (plusR a b)) b (by omega)
    (fun hc => by
      refine Ev.loop ?_
      simp only [ref08_Plus_l1, ref08_Plus_s1]
      refine Ev.cf hc ?_
      rw [List.take_length]
      exact Ev.pure _)
    (fun i x hx hd hc hg hi hP => by
      refine Ev.loop ?_
      simp only [ref08_Plus_l1, ref08_Plus_s1, re_eq]
      have h3 := szL_take_succ hx
      have h4 := foldTog_sz (b.take i) a
      rw [List.take_add_one, hx, List.foldl_append] at hP
      refine Ev.ct hc (Ev.some hg (Ev.bind (tog_ev _ x (by omega)) ?_))
      rw [hi]
      exact hP)
  refine Ev.ct (room_t (by simp only [List.length_nil]; omega) (by omega)) ?_
  have main : Ev (fun m _ => ref08_Plus_L m m b a 0) (plusR a b) := Ev.diag (L := fun m k => ref08_Plus_L m k b a 0) (key 0 (Nat.zero_le _))
  exact Ev.case (fun h => by rw [h] at main ⊢; exact main) fun x r h => by rw [h] at main ⊢; exact main
theorem rsums_ev (t : T) : size t ≤ 1000000000 → Ev (fun m _ => ref08_Summands m t) (sumsX t) := by
  induction t using T.ind with
  | h t ih =>
    intro hs
    have hl := kids_lt t
    have hz := size_eq t
    refine Ev.succ ?_
    simp only [ref08_Summands_e, ref08_Summands_s0, re_eq]
    have key := ev_list (P := fun i => Ev (fun m k => ref08_Summands_L m (ref08_Summands m) k (((t.kids.take i).map sumsX).foldl plusX []) i t.kind t.name t.sort t.kids) ((t.kids.map sumsX).foldl plusX [])) t.kids (by omega)
      (fun hc => by
        refine Ev.loop ?_
        simp only [ref08_Summands_l1, ref08_Summands_s1]
        refine Ev.cf hc ?_
        rw [List.take_length]
        exact Ev.pure _)
      (fun i x hx hd hc hg hi hP => by
        refine Ev.loop ?_
        simp only [ref08_Summands_l1, ref08_Summands_s1, re_eq]
        have hm := List.mem_of_getElem? hx
        have h1 := kid_lt t x hm
        have h2 := partsX_sz (t.kids.take i)
        have h3 := szL_take_succ hx
        have h4 := sumsX_sz x
        have ha : Asc (((t.kids.take i).map sumsX).foldl plusX []) := foldPlus_asc _ _ List.Pairwise.nil fun l hl => by
          obtain ⟨k, _, rfl⟩ := List.mem_map.1 hl
          exact sumsX_asc k
        refine Ev.ct hc (Ev.some hg (Ev.bind (ih x hm (by omega)) (Ev.bind (rplus_ev _ _ ?_) ?_)))
        · unfold partsX at h2; unfold szL at *; omega
        · rw [hi, plusR_eq ha (sumsX_asc x)]
          refine hP.congr fun m k => ?_
          rw [parts_take hx])
    have main : Ev (fun m _ => ref08_Summands_L m (ref08_Summands m) m [] 0 t.kind t.name t.sort t.kids) ((t.kids.map sumsX).foldl plusX []) :=
      Ev.diag (L := fun m k => ref08_Summands_L m (ref08_Summands m) k [] 0 t.kind t.name t.sort t.kids) (key 0 (Nat.zero_le _))
    rw [sumsX_eq]
    by_cases h3 : t.kind = 3
    · have hk : ieq t.kind 3 = true := ieq_t.2 h3
      have hk' : bnot (ieq t.kind 3) = false := bnf.2 hk
      refine Ev.ct hk ?_
      refine Ev.ite (fun hn => ?_) fun hn => ?_
      · rw [seq_t] at hn
        have hnz : isN t nZero = true := isN_t.2 ⟨h3, hn⟩
        have hnx : isN t nXor = false := by
          rw [← Bool.not_eq_true, isN_t]; rintro ⟨_, h⟩; rw [hn] at h; exact absurd h (by decide)
        refine Ev.ite (fun he => ?_) fun he => ?_
        · rw [ieq_t] at he
          have he : t.kids = [] := List.eq_nil_of_length_eq_zero (by omega)
          rw [hnz, he]
          exact Ev.pure _
        · rw [ieq_f] at he
          have he : t.kids.isEmpty = false := by
            cases hh : t.kids with
            | nil => rw [hh] at he; exact absurd rfl he
            | cons _ _ => rfl
          rw [hnz, he, hnx]
          exact Ev.cf hk' (Ev.ct (by rw [hn]; rfl) (Ev.pure _))
      · have hn' := seq_f.1 hn
        have hnz : isN t nZero = false := by
          rw [← Bool.not_eq_true, isN_t]; rintro ⟨_, h⟩; exact hn' h
        rw [hnz]
        refine Ev.cf hk' (Ev.ite (fun hx => ?_) fun hx => ?_)
        · have hnx : isN t nXor = false := by
            rw [← Bool.not_eq_true, isN_t]; rintro ⟨_, h⟩; exact seq_f.1 (bnt.1 hx) h
          rw [hnx]
          exact Ev.pure _
        · rw [show isN t nXor = true from isN_t.2 ⟨h3, seq_t.1 (bnf.1 hx)⟩]
          exact main
    · have hk : ieq t.kind 3 = false := ieq_f.2 h3
      have hnn : ∀ n, isN t n = false := fun n => by
        rw [← Bool.not_eq_true, isN_t]; rintro ⟨h, _⟩; exact h3 h
      rw [hnn, hnn]
      exact Ev.cf hk (Ev.ct (bnt.2 hk) (Ev.pure _))
theorem valid_zero : validE (apT nZero []) = 0 := by
  unfold validE
  rw [nodesE_eq, size_eq, depT_eq]
  have : nodeE (apT nZero []) = 0 := by decide
  show (if nodeE (apT nZero []) ≠ 0 then nodeE (apT nZero []) else _) = 0
  rw [this]; rfl
theorem rvalid8_ev (l : List T) (hs : szL l ≤ 100000000) : Ev (fun m _ => ref08_valid m l (apT nZero [])) (rightE l) := by
  have hl := len_szL l
  refine Ev.succ ?_
  simp only [ref08_valid_e, ref08_valid_s0]
  unfold rightE
  refine Ev.ite (fun h => ?_) fun h => ?_
  · rw [ilt_t] at h
    rw [if_pos (by omega)]
    exact Ev.pure _
  · rw [ilt_f] at h
    rw [if_neg (by omega)]
    have key := ev_list (P := fun i => Ev (fun m k => ref08_valid_L m k l i 3 nZero 0 []) (((l.drop i).map validE).foldl thn 0)) l (by omega)
      (fun hc => by
        refine Ev.loop ?_
        simp only [ref08_valid_l1, ref08_valid_s1]
        refine Ev.cf hc ?_
        rw [List.drop_length]
        refine Ev.bind (rvalid_ev (T.mk 3 nZero 0 []) (by rw [size_eq]; show 1 + 0 ≤ _; omega)) ?_
        exact Ev.ret valid_zero)
      (fun i x hx hd hc hg hi hP => by
        refine Ev.loop ?_
        simp only [ref08_valid_l1, ref08_valid_s1, re_eq]
        have h1 := mem_szL (List.mem_of_getElem? hx)
        rw [foldThn_drop hd]
        refine Ev.ct hc (Ev.some hg (Ev.bind (rvalid_ev x (by omega)) (Ev.ite (fun hv => ?_) fun hv => ?_)))
        · rw [bnt, ieq_f] at hv
          rw [if_pos hv]
          exact Ev.pure _
        · rw [bnf, ieq_t] at hv
          rw [if_neg (by omega), hi]
          exact hP)
    refine Ev.diag (L := fun m k => ref08_valid_L m k l 0 3 nZero 0 []) ?_
    exact (key 0 (Nat.zero_le _)).res (by rw [List.drop_zero])
theorem outX_sz (l : List T) : size (outX l) ≤ 1 + szL l := by
  unfold outX
  split
  · rw [size_eq]; show 1 + 0 ≤ _; omega
  · split
    · rename_i _ h1l
      have : l.getD 0 zT ∈ l := by
        cases l with
        | nil => cases h1l
        | cons x r => exact List.mem_cons_self ..
      have := mem_szL this; omega
    · rw [size_eq]; exact Nat.le_refl _
theorem rterm8_ev (l : List T) (hs : szL l ≤ 1000000000) : Ev (fun m _ => ref08_Term m l) (outX l) := by
  have hl := len_szL l
  refine Ev.succ ?_
  simp only [ref08_Term_e, ref08_Term_s0, re_eq]
  unfold outX
  refine Ev.ite (fun h0 => ?_) fun h0 => ?_
  · rw [ieq_t] at h0
    rw [if_pos (by omega)]
    exact Ev.bind (rapp_ev _ [] (by simp)) (Ev.pure _)
  · rw [ieq_f] at h0
    rw [if_neg (by omega)]
    refine Ev.ite (fun h1 => ?_) fun h1 => ?_
    · rw [ieq_t] at h1
      rw [if_pos (by omega)]
      refine Ev.some (a := l.getD 0 zT) ?_ (Ev.pure _)
      rw [lget_zero, List.getD_eq_getElem?_getD]
      cases l with
      | nil => simp at h1
      | cons x r => rfl
    · rw [ieq_f] at h1
      rw [if_neg (by omega)]
      exact Ev.ct (room_t (by simp only [List.length_nil]; omega) (by omega)) (Ev.case (fun h => Ev.ret (by rw [h]; rfl)) fun x r h => Ev.ret (by rw [h]; rfl))
theorem rsum_ev (l : List T) (hs : szL l ≤ 900000) : Ev (fun m _ => ref08_Sum m l) (sumX l) := by
  have hl := len_szL l
  refine Ev.succ ?_
  simp only [ref08_Sum_e, ref08_Sum_s0]
  unfold sumX
  have z : Ev (fun m _ => ref08_zero m) (apT nZero []) := by
    refine Ev.succ ?_
    simp only [ref08_zero_e, ref08_zero_s0, re_eq]
    exact Ev.bind (rapp_ev _ [] (by simp)) (Ev.pure _)
  refine Ev.bind z ?_
  rw [re_eq]
  refine Ev.bind (rvalid8_ev l (by omega)) (Ev.ite (fun h => ?_) fun h => ?_)
  · rw [bnt, ieq_f] at h
    rw [if_pos h]
    exact Ev.pure _
  · rw [bnf, ieq_t] at h
    rw [if_neg (by omega)]
    have key := ev_list (P := fun i => Ev (fun m k => ref08_Sum_L m k l (((l.take i).map sumsX).foldl plusX []) i 0 [] 0 []) (if validE (outX (partsX l)) ≠ 0 then (zT, 3) else (outX (partsX l), 0))) l (by omega)
      (fun hc => by
        refine Ev.loop ?_
        simp only [ref08_Sum_l1, ref08_Sum_s1, re_eq]
        refine Ev.cf hc ?_
        rw [List.take_length]
        have h1 := partsX_sz l
        have h2 := outX_sz (partsX l)
        refine Ev.bind (rterm8_ev (partsX l) (by omega)) (Ev.bind (rvalid_ev _ (by omega)) (Ev.ite (fun h => ?_) fun h => ?_))
        · rw [bnt, ieq_f] at h
          rw [if_pos h]; exact Ev.pure _
        · rw [bnf, ieq_t] at h
          rw [if_neg (by omega)]; exact Ev.pure _)
      (fun i x hx hd hc hg hi hP => by
        refine Ev.loop ?_
        simp only [ref08_Sum_l1, ref08_Sum_s1, re_eq]
        have hm := List.mem_of_getElem? hx
        have h1 := mem_szL hm
        have h2 := partsX_sz (l.take i)
        have h3 := szL_take_succ hx
        have h4 := sumsX_sz x
        have ha : Asc (((l.take i).map sumsX).foldl plusX []) := foldPlus_asc _ _ List.Pairwise.nil fun l hl => by
          obtain ⟨k, _, rfl⟩ := List.mem_map.1 hl
          exact sumsX_asc k
        refine Ev.ct hc (Ev.some hg (Ev.bind (rsums_ev x (by omega)) (Ev.bind (rplus_ev _ _ ?_) ?_)))
        · unfold partsX at h2; omega
        · rw [hi, plusR_eq ha (sumsX_asc x)]
          refine hP.congr fun m k => ?_
          rw [parts_take hx])
    refine Ev.diag (L := fun m k => ref08_Sum_L m k l [] 0 0 [] 0 []) ?_
    exact key 0 (Nat.zero_le _)
end Go.AmYtmodnblfcikjlaaGreat
namespace Go.GxYtmodnblfcikjlaaGreat

def AscP (l : List Pw) : Prop := Asc (l.map (·.1))
def NzP (l : List Pw) : Prop := ∀ p ∈ l, p.2 ≠ 0
theorem ascP_cons {p : Pw} {l : List Pw} : AscP (p :: l) ↔ (∀ q ∈ l, cmpT p.1 q.1 = -1) ∧ AscP l := by
  unfold AscP
  rw [List.map_cons, asc_cons]
  simp
theorem nzP_cons {p : Pw} {l : List Pw} : NzP (p :: l) ↔ p.2 ≠ 0 ∧ NzP l := by
  unfold NzP; simp
/-- The sum of the absolute values. -/
def absS (l : List Pw) : Nat := (l.map fun p => p.2.natAbs).sum
theorem insP_mem : ∀ (l : List Pw) (t : T) (n : Int) (p : Pw), p ∈ insP l t n → p.1 = t ∨ p ∈ l
  | [], t, n, p, h => by simp [insP] at h; exact .inl (by rw [h])
  | (x, m) :: l, t, n, p, h => by
    rw [insP] at h
    split at h
    · rcases List.mem_cons.1 h with h | h
      · exact .inl (by rw [h])
      · exact .inr h
    · split at h
      · rename_i h0
        split at h
        · exact .inr (List.mem_cons_of_mem _ h)
        · rcases List.mem_cons.1 h with h | h
          · left; rw [h]; exact (cmpT_zero t x h0).symm
          · exact .inr (List.mem_cons_of_mem _ h)
      · rcases List.mem_cons.1 h with h | h
        · exact .inr (h ▸ List.mem_cons_self ..)
        · rcases insP_mem l t n p h with h | h
          · exact .inl h
          · exact .inr (List.mem_cons_of_mem _ h)
theorem insP_asc : ∀ (l : List Pw) (t : T) (n : Int), AscP l → AscP (insP l t n)
  | [], _, _, _ => List.pairwise_singleton _ _
  | (x, m) :: l, t, n, h => by
    obtain ⟨h1, h2⟩ := ascP_cons.1 h
    rw [insP]
    have hr := cmpT_cmp.rng t x
    split
    · rename_i hlt
      refine ascP_cons.2 ⟨fun q hq => ?_, h⟩
      rcases List.mem_cons.1 hq with e | hq
      · rw [e]; exact hlt
      · exact cmpT_tr hlt (h1 q hq)
    · split
      · split
        · exact h2
        · exact ascP_cons.2 ⟨h1, h2⟩
      · refine ascP_cons.2 ⟨fun q hq => ?_, insP_asc l t n h2⟩
        rcases insP_mem l t n q hq with e | hq
        · rw [e]; exact cmpT_gt.1 (show cmpT t x = 1 by omega)
        · exact h1 q hq
theorem insP_nz : ∀ (l : List Pw) (t : T) (n : Int), NzP l → n ≠ 0 → NzP (insP l t n)
  | [], _, _, _, hn => by intro p hp; simp [insP] at hp; rw [hp]; exact hn
  | (x, m) :: l, t, n, h, hn => by
    obtain ⟨h1, h2⟩ := nzP_cons.1 h
    rw [insP]
    split
    · exact nzP_cons.2 ⟨hn, h⟩
    · split
      · split
        · exact h2
        · exact nzP_cons.2 ⟨by assumption, h2⟩
      · exact nzP_cons.2 ⟨h1, insP_nz l t n h2 hn⟩
theorem insP_abs : ∀ (l : List Pw) (t : T) (n : Int), absS (insP l t n) ≤ absS l + n.natAbs
  | [], t, n => by simp [insP, absS]
  | (x, m) :: l, t, n => by
    have ih := insP_abs l t n
    unfold absS at ih ⊢
    rw [insP]
    split
    · simp only [List.map_cons, List.sum_cons]; omega
    · split
      · split
        · simp only [List.map_cons, List.sum_cons]; omega
        · simp only [List.map_cons, List.sum_cons]; omega
      · simp only [List.map_cons, List.sum_cons]; omega
theorem insP_len : ∀ (l : List Pw) (t : T) (n : Int), (insP l t n).length ≤ l.length + 1
  | [], t, n => by simp [insP]
  | (x, m) :: l, t, n => by
    have ih := insP_len l t n
    rw [insP]
    split
    · simp
    · split
      · split
        · simp; omega
        · simp
      · simp only [List.length_cons]; omega
theorem abs_le (l : List Pw) (p : Pw) (h : p ∈ l) : p.2.natAbs ≤ absS l := by
  unfold absS
  induction l with
  | nil => cases h
  | cons q l ih =>
    simp only [List.map_cons, List.sum_cons]
    rcases List.mem_cons.1 h with e | h
    · rw [e]; omega
    · have := ih h; omega

/-- The reference's way to add a power. -/
noncomputable def addPS (t : T) (n : Int) (s : List Pw × Bool) (p : Pw) : List Pw × Bool :=
  ((if s.2 = false ∧ cmpT t p.1 < 0 then s.1 ++ [(t, n)] else s.1) ++ (if (if cmpT t p.1 = 0 then p.2 + n else p.2) = 0 then [] else [(p.1, if cmpT t p.1 = 0 then p.2 + n else p.2)]),
    s.2 || decide (cmpT t p.1 ≤ 0))
noncomputable def addPR (l : List Pw) (t : T) (n : Int) : List Pw := if (l.foldl (addPS t n) ([], false)).2 then (l.foldl (addPS t n) ([], false)).1 else (l.foldl (addPS t n) ([], false)).1 ++ [(t, n)]
theorem addPS_done (t : T) (n : Int) : ∀ (l out : List Pw), NzP l → (∀ q ∈ l, cmpT t q.1 = -1) → l.foldl (addPS t n) (out, true) = (out ++ l, true)
  | [], out, _, _ => by simp
  | (x, m) :: l, out, h, k => by
    obtain ⟨h1, h2⟩ := nzP_cons.1 h
    have k1 := k _ (List.mem_cons_self ..)
    simp only at k1 h1
    have e : addPS t n (out, true) (x, m) = (out ++ [(x, m)], true) := by simp [addPS, k1, h1]
    rw [List.foldl_cons, e, addPS_done t n l _ h2 fun q hq => k q (List.mem_cons_of_mem _ hq)]
    simp
theorem addPS_start (t : T) (n : Int) : ∀ (l out : List Pw), NzP l → AscP l → (if (l.foldl (addPS t n) (out, false)).2 then (l.foldl (addPS t n) (out, false)).1 else (l.foldl (addPS t n) (out, false)).1 ++ [(t, n)]) = out ++ insP l t n
  | [], out, _, _ => by simp [insP]
  | (x, m) :: l, out, h, k => by
    obtain ⟨h1, h2⟩ := nzP_cons.1 h
    obtain ⟨k1, k2⟩ := ascP_cons.1 k
    simp only at h1 k1
    have hr := cmpT_cmp.rng t x
    rw [List.foldl_cons, insP]
    by_cases c1 : cmpT t x = -1
    · have e : addPS t n (out, false) (x, m) = (out ++ [(t, n)] ++ [(x, m)], true) := by simp [addPS, c1, h1]
      rw [e, addPS_done t n l _ h2 fun q hq => cmpT_tr c1 (k1 q hq), if_pos c1]
      simp
    · by_cases c2 : cmpT t x = 0
      · have e : addPS t n (out, false) (x, m) = (out ++ (if m + n = 0 then [] else [(x, m + n)]), true) := by simp [addPS, c2]
        have ex := cmpT_zero t x c2
        rw [e, addPS_done t n l _ h2 fun q hq => by rw [ex]; exact k1 q hq, if_neg c1, if_pos c2]
        by_cases c3 : m + n = 0
        · simp [c3]
        · simp [c3]
      · have e : addPS t n (out, false) (x, m) = (out ++ [(x, m)], false) := by
          have g1 : ¬ cmpT t x < 0 := by omega
          have g2 : ¬ cmpT t x ≤ 0 := by omega
          simp [addPS, g1, g2, c2, h1]
        rw [e, addPS_start t n l _ h2 k2, if_neg c1, if_neg c2]
        simp
theorem addPR_eq {l : List Pw} (h : NzP l) (k : AscP l) (t : T) (n : Int) : addPR l t n = insP l t n := by
  have := addPS_start t n l [] h k
  simpa [addPR] using this

/-- What holds of a product behind the product of a term. -/
def GoodP (l : List Pw) : Prop := AscP l ∧ NzP l
theorem GoodP.nil : GoodP [] := ⟨List.Pairwise.nil, fun _ h => by cases h⟩
theorem GoodP.ins {l : List Pw} (h : GoodP l) (t : T) {n : Int} (hn : n ≠ 0) : GoodP (insP l t n) := ⟨insP_asc l t n h.1, insP_nz l t n h.2 hn⟩
theorem sgnP_ne {t : T} {n : Int} (h : n ≠ 0) : sgnP t n ≠ 0 := by unfold sgnP; split <;> omega
theorem sgnP_abs (t : T) (n : Int) : (sgnP t n).natAbs = n.natAbs := by unfold sgnP; split <;> omega
theorem foldCol (fs : List T) (n : Int) (P : List Pw → Prop) (h : ∀ k ∈ fs, ∀ l, P l → P (colP k l n)) : ∀ l, P l → P ((fs.map colP).foldl (fun l f => f l n) l) := by
  induction fs with
  | nil => intro l hl; exact hl
  | cons k fs ih => intro l hl; exact ih (fun k hk => h k (List.mem_cons_of_mem _ hk)) _ (h k (List.mem_cons_self ..) l hl)
theorem colP_good (t : T) : ∀ (l : List Pw) (n : Int), n ≠ 0 → GoodP l → GoodP (colP t l n) := by
  refine T.ind (P := fun t => ∀ (l : List Pw) (n : Int), n ≠ 0 → GoodP l → GoodP (colP t l n)) ?_ t
  intro t ih l n hn h
  rw [colP_eq]
  split
  · exact foldCol t.kids (sgnP t n) GoodP (fun k hk l hl => ih k hk l _ (sgnP_ne hn) hl) l h
  · exact h.ins t hn
theorem colP_abs (t : T) : ∀ (l : List Pw) (n : Int), absS (colP t l n) ≤ absS l + size t * n.natAbs ∧ (colP t l n).length ≤ l.length + size t := by
  refine T.ind (P := fun t => ∀ (l : List Pw) (n : Int), absS (colP t l n) ≤ absS l + size t * n.natAbs ∧ (colP t l n).length ≤ l.length + size t) ?_ t
  intro t ih l n
  rw [colP_eq, size_eq]
  split
  · have : ∀ (fs : List T), (∀ k ∈ fs, k ∈ t.kids) → ∀ l, absS ((fs.map colP).foldl (fun l f => f l (sgnP t n)) l) ≤ absS l + (fs.map size).sum * n.natAbs ∧ ((fs.map colP).foldl (fun l f => f l (sgnP t n)) l).length ≤ l.length + (fs.map size).sum := by
      intro fs
      induction fs with
      | nil => intro _ l; simp
      | cons k fs ihf =>
        intro hf l
        have h1 := ih k (hf k (List.mem_cons_self ..)) l (sgnP t n)
        rw [sgnP_abs] at h1
        have h2 := ihf (fun k hk => hf k (List.mem_cons_of_mem _ hk)) (colP k l (sgnP t n))
        simp only [List.map_cons, List.foldl_cons, List.sum_cons, Nat.add_mul] at h2 ⊢
        omega
    have := this t.kids (fun _ h => h) l
    rw [Nat.add_mul]
    omega
  · have h1 := insP_abs l t n
    have h2 := insP_len l t n
    rw [Nat.add_mul]
    omega
theorem mulL_good : ∀ (b a : List Pw), GoodP a → NzP b → GoodP (mulL a b)
  | [], a, h, _ => h
  | p :: b, a, h, k => mulL_good b (insP a p.1 p.2) (h.ins p.1 (nzP_cons.1 k).1) (nzP_cons.1 k).2
theorem mulL_abs : ∀ (b a : List Pw), absS (mulL a b) ≤ absS a + absS b ∧ (mulL a b).length ≤ a.length + b.length
  | [], a => by simp [mulL, absS]
  | p :: b, a => by
    have h1 := mulL_abs b (insP a p.1 p.2)
    have h2 := insP_abs a p.1 p.2
    have h3 := insP_len a p.1 p.2
    have e : absS (p :: b) = p.2.natAbs + absS b := by simp [absS]
    rw [show mulL a (p :: b) = mulL (insP a p.1 p.2) b from rfl, e, List.length_cons]
    omega

/-- Where a term lies in a product. -/
noncomputable def ixP : List Pw → T → Nat
  | [], _ => 0
  | p :: l, t => if cmpT p.1 t = -1 then ixP l t + 1 else 0
theorem ixP_le : ∀ (l : List Pw) (t : T), ixP l t ≤ l.length
  | [], _ => Nat.le_refl _
  | p :: l, t => by
    have := ixP_le l t
    rw [ixP]
    split
    · simp; omega
    · omega
theorem ixP_of : ∀ (l : List Pw) (t : T) (i : Nat), i ≤ l.length → (∀ k p, k < i → l[k]? = some p → cmpT p.1 t = -1) → (∀ p, l[i]? = some p → cmpT p.1 t ≠ -1) → i = ixP l t
  | [], _, i, h, _, _ => by simp at h; rw [h]; rfl
  | p :: l, t, 0, _, _, h => by rw [ixP, if_neg (h p rfl)]
  | p :: l, t, i + 1, h, k, m => by
    rw [ixP, if_pos (k 0 p (by omega) rfl)]
    rw [← ixP_of l t i (by simpa using h) (fun j q hj hq => k (j + 1) q (by omega) (by simpa using hq)) (fun q hq => m q (by simpa using hq))]
theorem insP_at : ∀ (l : List Pw) (t : T) (n : Int) (x : T) (m : Int), l[ixP l t]? = some (x, m) → cmpT x t = 0 →
    insP l t n = if m + n = 0 then l.take (ixP l t) ++ l.drop (ixP l t + 1) else l.take (ixP l t) ++ [(x, m + n)] ++ l.drop (ixP l t + 1)
  | [], _, _, _, _, h, _ => by simp at h
  | (y, k) :: l, t, n, x, m, h, h0 => by
    have an := cmpT_cmp.anti y t
    have rg := cmpT_cmp.rng y t
    rw [ixP] at h
    rw [insP, ixP]
    simp only at h ⊢
    by_cases c : cmpT y t = -1
    · rw [if_pos c] at h
      rw [if_neg (by omega), if_neg (by omega), if_pos c, insP_at l t n x m (by simpa using h) h0]
      split <;> simp
    · rw [if_neg c] at h
      simp at h
      obtain ⟨rfl, rfl⟩ := h
      rw [if_neg (by omega), if_pos (by omega), if_neg c]
      split <;> simp
theorem insP_out : ∀ (l : List Pw) (t : T) (n : Int), (∀ p, l[ixP l t]? = some p → cmpT p.1 t ≠ 0) → insP l t n = l.take (ixP l t) ++ [(t, n)] ++ l.drop (ixP l t)
  | [], _, _, _ => by simp [insP, ixP]
  | (y, k) :: l, t, n, h => by
    have an := cmpT_cmp.anti y t
    have rg := cmpT_cmp.rng y t
    rw [ixP] at h
    rw [insP, ixP]
    simp only at h ⊢
    by_cases c : cmpT y t = -1
    · rw [if_pos c] at h
      rw [if_neg (by omega), if_neg (by omega), if_pos c, insP_out l t n fun p hp => h p (by simpa using hp)]
      simp
    · rw [if_neg c] at h
      have := h (y, k) rfl
      simp only at this
      rw [if_pos (by omega), if_neg c]
      simp
theorem ascP_at {l : List Pw} (h : AscP l) {i j : Nat} {p q : Pw} (hi : l[i]? = some p) (hj : l[j]? = some q) (hij : i < j) : cmpT p.1 q.1 = -1 := by
  unfold AscP Asc at h
  rw [List.pairwise_iff_getElem] at h
  obtain ⟨hi1, hi2⟩ := List.getElem?_eq_some_iff.1 hi
  obtain ⟨hj1, hj2⟩ := List.getElem?_eq_some_iff.1 hj
  have := h i j (by simpa using hi1) (by simpa using hj1) hij
  simpa [hi2, hj2] using this
end Go.GxYtmodnblfcikjlaaGreat
namespace Go.AmYtmodnblfcikjlaaGreat
open Go Go.GxYtmodnblfcikjlaaGreat
theorem esym_ev (t : T) : Ev (fun m _ => exponent_symbol m t) (specT t) := by
  refine Ev.succ ?_
  simp only [exponent_symbol_e, exponent_symbol_s0]
  unfold specT
  by_cases h3 : t.kind = 3
  · refine Ev.ct (ieq_t.2 h3) (Ev.ite (fun h => ?_) fun h => (Ev.ite (fun h2 => ?_) fun h2 => ?_))
    · rw [seq_t] at h
      exact Ev.ret (by rw [h3, h]; rfl)
    · rw [seq_t] at h2
      exact Ev.ret (by rw [h3, h2]; rfl)
    · rw [seq_f] at h h2
      exact Ev.ret (by
        have a1 : (t.name == nMul) = false := by rw [beq_eq_false_iff_ne]; exact h
        have a2 : (t.name == nInv) = false := by rw [beq_eq_false_iff_ne]; exact h2
        rw [h3, a1, a2]; rfl)
  · exact Ev.cf (ieq_f.2 h3) (Ev.ret (by have : (t.kind == 3) = false := by rw [beq_eq_false_iff_ne]; exact h3
                                         rw [this]; rfl))
theorem eclone_ev (t : T) : size t ≤ 100000000 → Ev (fun m _ => exponent_clone m t) t := by
  induction t using T.ind with
  | h t ih =>
    intro hs
    have hl := kids_lt t
    refine Ev.succ ?_
    simp only [exponent_clone_e, exponent_clone_s0]
    have hc : slices_Clone_api_Term_api_Term 0 t.kids = some ((), t.kids, ()) := by
      unfold slices_Clone_api_Term_api_Term
      rw [show Nat.ble t.kids.length 100000000 = true from Nat.ble_eq_true_of_le (by omega)]; rfl
    refine Ev.some hc ?_
    have key := ev_list (P := fun i => Ev (fun m k => exponent_clone_L m (exponent_clone m) k t.kids.length i t.kind t.name t.sort 0 [] 0 t.kids []) t) t.kids (by omega)
      (fun hc => by
        refine Ev.loop ?_
        simp only [exponent_clone_l1, exponent_clone_s1]
        exact Ev.cf hc (Ev.ret (re_eq t)))
      (fun i x hx hd hc hg hi hP => by
        refine Ev.loop ?_
        simp only [exponent_clone_l1, exponent_clone_s1, re_eq]
        have hm := List.mem_of_getElem? hx
        have h1 := kid_lt t x hm
        have e : lset t.kids (i : Int) x = t.kids := by
          rw [lset_nat]
          obtain ⟨h2, h3⟩ := List.getElem?_eq_some_iff.1 hx
          rw [← h3, List.set_getElem_self]
        refine Ev.ct hc (Ev.some hg (Ev.bind (ih x hm (by omega)) (Ev.some hg ?_)))
        rw [e, hi]
        exact hP)
    refine Ev.diag (L := fun m k => exponent_clone_L m (exponent_clone m) k t.kids.length 0 t.kind t.name t.sort 0 [] 0 t.kids []) ?_
    exact key 0 (Nat.zero_le _)
theorem mid_eq (lo hi : Nat) (h : lo + hi ≤ 1000000000) : iw .i64 (ishr .u64 (iw .u64 (iw .i64 (iadd (lo : Int) (hi : Int)))) 1) = (((lo + hi) / 2 : Nat) : Int) := by
  rw [iadd_nat, show iw .i64 ((lo + hi : Nat) : Int) = ((lo + hi : Nat) : Int) from iw_id (by omega), show iw .u64 ((lo + hi : Nat) : Int) = ((lo + hi : Nat) : Int) from IntWalk.u64_in _ (by omega)]
  have : ishr .u64 ((lo + hi : Nat) : Int) 1 = (((lo + hi) / 2 : Nat) : Int) := by
    unfold ishr
    show Int.fdiv _ 2 = _
    rw [Int.fdiv_eq_ediv_of_nonneg _ (by decide)]; omega
  rw [this, iw_id (by omega)]
noncomputable def szP (l : List Pw) : Nat := (l.map fun p => size p.1).sum
theorem szP_cons (p : Pw) (l : List Pw) : szP (p :: l) = size p.1 + szP l := by simp [szP]
theorem len_szP : ∀ l : List Pw, l.length ≤ szP l
  | [] => Nat.zero_le _
  | p :: l => by
    have := len_szP l
    have := size_pos p.1
    rw [szP_cons, List.length_cons]; omega
theorem mem_szP : ∀ {l : List Pw} {p : Pw}, p ∈ l → size p.1 ≤ szP l
  | q :: l, p, h => by
    rw [szP_cons]
    rcases List.mem_cons.1 h with rfl | h
    · omega
    · have := mem_szP h; omega
theorem insP_sz : ∀ (l : List Pw) (t : T) (n : Int), szP (insP l t n) ≤ szP l + size t
  | [], t, n => by rw [insP, szP_cons]; show size t + 0 ≤ 0 + size t; omega
  | (x, m) :: l, t, n => by
    have := insP_sz l t n
    rw [insP]
    split
    · rw [szP_cons, szP_cons]; show size t + (size x + _) ≤ size x + _ + size t; omega
    · split
      · split
        · rw [szP_cons]; show _ ≤ size x + _ + _; omega
        · rw [szP_cons, szP_cons]; show size x + _ ≤ size x + _ + _; omega
      · rw [szP_cons, szP_cons]; show size x + _ ≤ size x + _ + _; omega
theorem eins1_ev (p : Pw) (t : T) (h1 : size p.1 ≤ 1000000000) (h2 : size t ≤ 1000000000) : Ev (fun m _ => exponent_insert_1 m p t) (cmpT p.1 t) := by
  refine Ev.succ ?_
  simp only [exponent_insert_1_e, exponent_insert_1_s0, re_eq]
  exact Ev.bind (tcompare_ev _ h1 _ h2) (Ev.pure _)
noncomputable def fndP (l : List Pw) (t : T) : Bool := match l[ixP l t]? with
  | some p => ieq (cmpT p.1 t) 0
  | none => false
theorem bs_loop {l : List Pw} (ha : AscP l) (t : T) (hs : szP l + size t ≤ 100000000) : ∀ (d lo hi : Nat), hi ≤ lo + d → lo ≤ hi → hi ≤ l.length → (∀ k p, k < lo → l[k]? = some p → cmpT p.1 t = -1) → (∀ k p, hi ≤ k → l[k]? = some p → cmpT p.1 t ≠ -1) →
    Ev (fun m k => slices_BinarySearchFunc_api_Power_api_Power_api_Term_of_158_L m k l l.length lo hi t.kind t.name t.sort t.kids) ((ixP l t : Int), fndP l t) := by
  have hl := len_szP l
  intro d
  induction d with
  | zero =>
    intro lo hi h1 h2 h3 h4 h5
    have : lo = hi := by omega
    subst this
    have hix := ixP_of l t lo h3 h4 (fun p hp => h5 lo p (Nat.le_refl _) hp)
    subst hix
    refine Ev.loop ?_
    simp only [slices_BinarySearchFunc_api_Power_api_Power_api_Term_of_158_l1, slices_BinarySearchFunc_api_Power_api_Power_api_Term_of_158_s1, re_eq]
    rw [show T.mk t.kind t.name t.sort t.kids = t from re_eq t]
    refine Ev.cf (ilt_f.2 (Int.le_refl _)) (Ev.ite (fun h => ?_) fun h => ?_)
    · rw [ilt_t] at h
      have hlt : ixP l t < l.length := by omega
      obtain ⟨p, hg⟩ : ∃ p, l[ixP l t]? = some p := ⟨_, List.getElem?_eq_getElem hlt⟩
      have hm := mem_szP (List.mem_of_getElem? hg)
      refine Ev.some (a := p) (by rw [lget_nat, hg]) (Ev.bind (eins1_ev (p.1, p.2) _ (Nat.le_trans hm (by omega)) (by omega)) (Ev.ret ?_))
      unfold fndP
      rw [hg]
    · rw [ilt_f] at h
      refine Ev.ret ?_
      unfold fndP
      rw [List.getElem?_eq_none (by omega)]
  | succ d ih =>
    intro lo hi h1 h2 h3 h4 h5
    by_cases he : lo = hi
    · exact ih lo hi (by omega) h2 h3 h4 h5
    refine Ev.loop ?_
    simp only [slices_BinarySearchFunc_api_Power_api_Power_api_Term_of_158_l1, slices_BinarySearchFunc_api_Power_api_Power_api_Term_of_158_s1, re_eq]
    rw [show T.mk t.kind t.name t.sort t.kids = t from re_eq t, mid_eq lo hi (by omega)]
    have hm1 : (lo + hi) / 2 < hi := by omega
    have hm2 : lo ≤ (lo + hi) / 2 := by omega
    generalize (lo + hi) / 2 = mid at *
    have hlt : mid < l.length := by omega
    obtain ⟨p, hg⟩ : ∃ p, l[mid]? = some p := ⟨_, List.getElem?_eq_getElem hlt⟩
    have hm := mem_szP (List.mem_of_getElem? hg)
    refine Ev.ct (ilt_t.2 (by omega)) (Ev.some (a := p) (by rw [lget_nat, hg]) (Ev.bind (eins1_ev (p.1, p.2) _ (Nat.le_trans hm (by omega)) (by omega)) (Ev.ite (fun hc => ?_) fun hc => ?_)))
    · rw [ilt_t] at hc
      have hc : cmpT p.1 t < 0 := hc
      have hc : cmpT p.1 t = -1 := by rcases cmpT_cmp.rng p.1 t with h | h | h <;> omega
      rw [show iadd ((mid : Nat) : Int) 1 = ((mid + 1 : Nat) : Int) from by unfold iadd; omega, iw_id (by omega)]
      refine ih (mid + 1) hi (by omega) (by omega) h3 (fun k q hk hp => ?_) h5
      by_cases hkm : k = mid
      · subst hkm; rw [hg] at hp; cases hp; exact hc
      · exact cmpT_cmp.trans _ _ _ (ascP_at ha hp hg (by omega)) hc
    · rw [ilt_f] at hc
      have hc : 0 ≤ cmpT p.1 t := hc
      refine ih lo mid (by omega) hm2 (by omega) h4 (fun k q hk hp => ?_)
      by_cases hkm : k = mid
      · subst hkm; rw [hg] at hp; cases hp; omega
      · intro hcp
        have := cmpT_cmp.trans _ _ _ (ascP_at ha hg hp (by omega)) hcp
        omega
theorem bs_ev {l : List Pw} (ha : AscP l) (t : T) (hs : szP l + size t ≤ 100000000) : Ev (fun m _ => slices_BinarySearchFunc_api_Power_api_Power_api_Term_of_158 m l t) ((ixP l t : Int), fndP l t) := by
  refine Ev.succ ?_
  simp only [slices_BinarySearchFunc_api_Power_api_Power_api_Term_of_158_e, slices_BinarySearchFunc_api_Power_api_Power_api_Term_of_158_s0]
  refine Ev.diag (L := fun m k => slices_BinarySearchFunc_api_Power_api_Power_api_Term_of_158_L m k l l.length 0 l.length t.kind t.name t.sort t.kids) ?_
  exact bs_loop ha t hs l.length 0 l.length (by omega) (Nat.zero_le _) (Nat.le_refl _) (fun k p hk => by omega) (fun k p hk hp => by rw [List.getElem?_eq_none hk] at hp; cases hp)
theorem einsert_ev {l : List Pw} (ha : AscP l) (t : T) (n : Int) (hs : szP l + size t ≤ 90000000) (hlen : l.length ≤ 90000) (hn : absS l + n.natAbs ≤ 1000000000000) : Ev (fun m _ => exponent_insert m l (t, n)) ((), insP l t n, ()) := by
  have hl := len_szP l
  have hix := ixP_le l t
  refine Ev.succ ?_
  simp only [exponent_insert_e, exponent_insert_s0, re_eq]
  refine Ev.bind (bs_ev ha t (by omega)) (Ev.ite (fun h => ?_) fun h => ?_)
  · rw [bnt] at h
    refine Ev.bind (eclone_ev t (by omega)) ?_
    have hI : slices_Insert_api_Power_api_Power 0 l (ixP l t : Int) [(re t, n)] = some ((), insP l t n, ()) := by
      unfold slices_Insert_api_Power_api_Power
      rw [show inb (ixP l t : Int) l.length = true from by unfold inb; rw [decide_eq_true_iff]; omega, show Nat.ble l.length 100000 = true from Nat.ble_eq_true_of_le (by omega)]
      rw [insP_out l t n fun p hp hc => by
        unfold fndP at h
        simp only [hp] at h
        rw [ieq_f] at h
        exact h hc]
      rw [Int.toNat_natCast, re_eq, List.append_assoc]; rfl
    rw [re_eq] at hI
    refine Ev.some hI (Ev.pure _)
  · rw [bnf] at h
    cases hg : l[ixP l t]? with
    | none => unfold fndP at h; simp only [hg] at h; cases h
    | some p =>
      obtain ⟨x, k⟩ := p
      have hc : cmpT x t = 0 := by
        unfold fndP at h
        simp only [hg] at h
        exact ieq_t.1 h
      have hm := abs_le l _ (List.mem_of_getElem? hg)
      have hlt : ixP l t < l.length := (List.getElem?_eq_some_iff.1 hg).1
      simp only at hm
      have e1 : iw .i64 (iadd k n) = k + n := by
        unfold iadd
        exact iw_id (by omega)
      have gset : lget (lset l (ixP l t : Int) (x, k + n)) (ixP l t : Int) = some (x, k + n) := by
        rw [lset_nat, lget_nat, List.getElem?_set_self hlt]
      have hsplit : l.set (ixP l t) (x, k + n) = l.take (ixP l t) ++ [(x, k + n)] ++ l.drop (ixP l t + 1) := by
        rw [List.set_eq_take_append_cons_drop, if_pos hlt, List.append_assoc]; rfl
      refine Ev.some (by rw [lget_nat, hg]) (Ev.some (by rw [lget_nat, hg]) ?_)
      simp only [re_eq, e1]
      refine Ev.some gset ?_
      rw [insP_at l t n x k hg hc]
      refine Ev.ite (fun hz => ?_) fun hz => ?_
      · rw [ieq_t] at hz
        rw [if_pos hz]
        have hD : slices_Delete_api_Power_api_Power 0 (lset l (ixP l t : Int) (x, k + n)) (ixP l t : Int) (iw .i64 (iadd (ixP l t : Int) 1)) = some ((), l.take (ixP l t) ++ l.drop (ixP l t + 1), ()) := by
          rw [show iadd (ixP l t : Int) 1 = ((ixP l t + 1 : Nat) : Int) from by unfold iadd; omega, iw_id (by omega), lset_nat]
          unfold slices_Delete_api_Power_api_Power
          rw [List.length_set, show inb ((ixP l t + 1 : Nat) : Int) l.length = true from by unfold inb; rw [decide_eq_true_iff]; omega, show inb (ixP l t : Int) l.length = true from by unfold inb; rw [decide_eq_true_iff]; omega,
            show ieq ((ixP l t + 1 : Nat) : Int) (iadd (ixP l t : Int) 1) = true from ieq_t.2 (by unfold iadd; omega), show Nat.ble l.length 100000 = true from Nat.ble_eq_true_of_le (by omega)]
          rw [Int.toNat_natCast, List.take_set_of_le (Nat.le_refl _), List.drop_set_of_lt (by omega)]; rfl
        exact Ev.some hD (Ev.pure _)
      · rw [ieq_f] at hz
        rw [if_neg hz]
        refine Ev.ret ?_
        rw [lset_nat, hsplit]
end Go.AmYtmodnblfcikjlaaGreat
namespace Go.GxYtmodnblfcikjlaaGreat
open Go.RowKit
theorem pvK_eq (q : Option T) (p : Pw) : pvK q p = if validE p.1 ≠ 0 then validE p.1 else if specT p.1 then 1 else if p.2 = 0 ∨ p.2 < -1000 ∨ 1000 < p.2 then 7 else match q with | some x => if 0 ≤ cmpT x p.1 then 5 else 0 | none => 0 := rfl
theorem pvL_good : ∀ (l : List Pw) (q : Option T), pvL q l = 0 → AscP l ∧ (∀ p ∈ l, p.2 ≠ 0 ∧ p.2.natAbs ≤ 1000) ∧ (∀ x, q = some x → ∀ p ∈ l, cmpT x p.1 = -1) ∧ (∀ p ∈ l, validE p.1 = 0 ∧ specT p.1 = false)
  | [], q, _ => ⟨List.Pairwise.nil, (fun _ h => by cases h), (fun _ _ _ h => by cases h), (fun _ h => by cases h)⟩
  | p :: l, q, h => by
    rw [pvL] at h
    unfold thn at h
    split at h
    rotate_left
    · rename_i h1; exact absurd h h1
    · rename_i h1
      have hk := pvK_eq q p
      obtain ⟨i1, i2, i3, i4⟩ := pvL_good l (some p.1) h
      rw [hk] at h1
      split at h1
      · rename_i h2; exact absurd h1 h2
      rename_i h2
      split at h1
      · cases h1
      rename_i h3
      split at h1
      · cases h1
      rename_i h4
      have hq : ∀ x, q = some x → cmpT x p.1 = -1 := fun x hx => by
        subst hx
        simp only at h1
        split at h1
        · cases h1
        · rename_i h5
          rcases cmpT_cmp.rng x p.1 with h | h | h <;> omega
      refine ⟨ascP_cons.2 ⟨fun r hr => i3 _ rfl r hr, i1⟩, fun r hr => ?_, fun x hx r hr => ?_, fun r hr => ?_⟩
      · rcases List.mem_cons.1 hr with rfl | hr
        · omega
        · exact i2 r hr
      · rcases List.mem_cons.1 hr with rfl | hr
        · exact hq x hx
        · exact cmpT_tr (hq x hx) (by have := i3 _ rfl r hr; omega)
      · rcases List.mem_cons.1 hr with rfl | hr
        · exact ⟨by omega, by simpa using h3⟩
        · exact i4 r hr
theorem pvalE_good {l : List Pw} (h : pvalE l = 0) : GoodP l ∧ l.length ≤ 200 ∧ (∀ p ∈ l, p.2.natAbs ≤ 1000) ∧ (∀ p ∈ l, validE p.1 = 0 ∧ specT p.1 = false) := by
  unfold pvalE at h
  split at h
  · cases h
  · obtain ⟨i1, i2, -, i4⟩ := pvL_good l none h
    exact ⟨⟨i1, fun p hp => (i2 p hp).1⟩, by omega, fun p hp => (i2 p hp).2, i4⟩
theorem absS_le (k : Nat) : ∀ (l : List Pw), (∀ p ∈ l, p.2.natAbs ≤ k) → absS l ≤ l.length * k
  | [], _ => by simp [absS]
  | p :: l, h => by
    have h1 := absS_le k l fun q hq => h q (List.mem_cons_of_mem _ hq)
    have h2 := h p (List.mem_cons_self ..)
    have e : absS (p :: l) = p.2.natAbs + absS l := rfl
    rw [e, List.length_cons, Nat.add_mul]; omega
theorem mulL_mem : ∀ (b a : List Pw) (p : Pw), p ∈ mulL a b → (∃ q ∈ a, q.1 = p.1) ∨ ∃ q ∈ b, q.1 = p.1
  | [], a, p, h => .inl ⟨p, h, rfl⟩
  | r :: b, a, p, h => by
    rcases mulL_mem b (insP a r.1 r.2) p h with ⟨q, hq, e⟩ | ⟨q, hq, e⟩
    · rcases insP_mem a r.1 r.2 q hq with h1 | h1
      · exact .inr ⟨r, List.mem_cons_self .., by rw [← h1]; exact e⟩
      · exact .inl ⟨q, h1, e⟩
    · exact .inr ⟨q, List.mem_cons_of_mem _ hq, e⟩
theorem mulL_snoc (a b : List Pw) (p : Pw) : mulL a (b ++ [p]) = insP (mulL a b) p.1 p.2 := by unfold mulL; rw [List.foldl_append]; rfl
/-- All that the walk needs of the sums on the way. -/
theorem mulL_facts {a b : List Pw} (ha : pvalE a = 0) (hb : pvalE b = 0) (S : Nat) (hsa : ∀ p ∈ a, size p.1 ≤ S) (hsb : ∀ p ∈ b, size p.1 ≤ S) (j : Nat) :
    AscP (mulL a (b.take j)) ∧ (mulL a (b.take j)).length ≤ 400 ∧ (∀ p ∈ mulL a (b.take j), p.2.natAbs ≤ 1000000) ∧ (∀ p ∈ mulL a (b.take j), size p.1 ≤ S) := by
  obtain ⟨g1, l1, k1, -⟩ := pvalE_good ha
  obtain ⟨g2, l2, k2, -⟩ := pvalE_good hb
  have hm : ∀ p ∈ b.take j, p ∈ b := fun p hp => List.mem_of_mem_take hp
  have hg := mulL_good (b.take j) a g1 fun p hp => g2.2 p (hm p hp)
  obtain ⟨h1, h2⟩ := mulL_abs (b.take j) a
  have h3 := absS_le 1000 a k1
  have h4 := absS_le 1000 (b.take j) fun p hp => k2 p (hm p hp)
  have h5 : (b.take j).length ≤ 200 := by rw [List.length_take]; omega
  refine ⟨hg.1, by omega, fun p hp => ?_, fun p hp => ?_⟩
  · have := abs_le _ p hp
    omega
  · rcases mulL_mem _ _ p hp with ⟨q, hq, e⟩ | ⟨q, hq, e⟩
    · rw [← e]; exact hsa q hq
    · rw [← e]; exact hsb q (hm q hq)
end Go.GxYtmodnblfcikjlaaGreat
namespace Go.AmYtmodnblfcikjlaaGreat
open Go Go.GxYtmodnblfcikjlaaGreat
theorem validE_sz {t : T} (h : validE t = 0) : size t ≤ 400 := by
  unfold validE at h
  split at h
  · rename_i h1; exact absurd h h1
  · split at h
    · cases h
    · omega
theorem specT_t {t : T} : specT t = true ↔ t.kind = 3 ∧ (t.name = nMul ∨ t.name = nInv ∨ t.name = nOne) := by
  unfold specT
  simp only [Bool.and_eq_true, Bool.or_eq_true, beq_iff_eq]
  constructor
  · rintro ⟨h, (h1 | h1) | h1⟩
    · exact ⟨h, .inl h1⟩
    · exact ⟨h, .inr (.inl h1)⟩
    · exact ⟨h, .inr (.inr h1)⟩
  · rintro ⟨h, h1 | h1 | h1⟩
    · exact ⟨h, .inl (.inl h1)⟩
    · exact ⟨h, .inl (.inr h1)⟩
    · exact ⟨h, .inr h1⟩
theorem colP_sz (t : T) : ∀ (l : List Pw) (n : Int), szP (colP t l n) ≤ szP l + size t := by
  refine T.ind (P := fun t => ∀ (l : List Pw) (n : Int), szP (colP t l n) ≤ szP l + size t) ?_ t
  intro t ih l n
  rw [colP_eq]
  have hz := size_eq t
  split
  · have : ∀ (fs : List T), (∀ k ∈ fs, k ∈ t.kids) → ∀ l, szP ((fs.map colP).foldl (fun l f => f l (sgnP t n)) l) ≤ szP l + (fs.map size).sum := by
      intro fs
      induction fs with
      | nil => intro _ l; simp
      | cons k fs ihf =>
        intro hf l
        have h1 := ih k (hf k (List.mem_cons_self ..)) l (sgnP t n)
        have h2 := ihf (fun k hk => hf k (List.mem_cons_of_mem _ hk)) (colP k l (sgnP t n))
        simp only [List.map_cons, List.foldl_cons, List.sum_cons] at h2 ⊢
        omega
    have := this t.kids (fun _ h => h) l
    omega
  · exact insP_sz l t n
/-- The first i kids are in. -/
noncomputable def accP (ks : List T) (sg : Int) (l : List Pw) (i : Nat) : List Pw := ((ks.take i).map colP).foldl (fun l f => f l sg) l
theorem accP_succ {ks : List T} {i : Nat} {x : T} (h : ks[i]? = some x) (sg : Int) (l : List Pw) : accP ks sg l (i + 1) = colP x (accP ks sg l i) sg := by
  unfold accP
  rw [List.take_add_one, h, List.map_append, List.foldl_append]; rfl
theorem accP_facts (sg : Int) (hsg : sg ≠ 0) : ∀ (ks : List T) (l : List Pw), GoodP l → GoodP ((ks.map colP).foldl (fun l f => f l sg) l) ∧ szP ((ks.map colP).foldl (fun l f => f l sg) l) ≤ szP l + szL ks ∧
    absS ((ks.map colP).foldl (fun l f => f l sg) l) ≤ absS l + szL ks * sg.natAbs ∧ ((ks.map colP).foldl (fun l f => f l sg) l).length ≤ l.length + szL ks
  | [], l, h => ⟨h, by simp, by simp, by simp⟩
  | k :: ks, l, h => by
    obtain ⟨i1, i2, i3, i4⟩ := accP_facts sg hsg ks (colP k l sg) (colP_good k l sg hsg h)
    have h1 := colP_sz k l sg
    obtain ⟨h2, h3⟩ := colP_abs k l sg
    rw [List.map_cons, List.foldl_cons, szL_cons, Nat.add_mul]
    exact ⟨i1, by omega, by omega, by omega⟩
noncomputable def colR (t : T) (l : List Pw) (n : Int) : Unit × List Pw × Bool × Unit := ((), if arT t then colP t l n else [], arT t, ())
theorem collect_ev (t : T) : ∀ (l : List Pw) (n : Int), n ≠ 0 → GoodP l → szP l + size t ≤ 80000 → absS l + size t * n.natAbs ≤ 100000000000 → Ev (fun m _ => exponent_collect m l t n) (colR t l n) := by
  induction t using T.ind with
  | h t ih =>
    intro l n hn hg hs hb
    have hl := kids_lt t
    have hz := size_eq t
    have hll := len_szP l
    refine Ev.succ ?_
    simp only [exponent_collect_e, exponent_collect_s0, re_eq]
    refine Ev.bind (esym_ev t) (Ev.ite (fun h => ?_) fun h => ?_)
    · rw [bnt] at h
      have hmul : n.natAbs ≤ size t * n.natAbs := Nat.le_mul_of_pos_left _ (size_pos t)
      refine Ev.bind (einsert_ev hg.1 t n (by omega) (by omega) (by omega)) (Ev.ret ?_)
      unfold colR
      rw [arT_eq, colP_eq, h]; rfl
    rw [bnf] at h
    obtain ⟨h3, hname⟩ := specT_t.1 h
    have har : arT t = (arK t && (t.kids.map arT).all id) := by rw [arT_eq, h]; rfl
    have loop : ∀ sg : Int, sg ≠ 0 → sg.natAbs = n.natAbs → sgnP t n = sg → arK t = true → Ev (fun m _ => exponent_collect_L m (exponent_collect m) m sg t.kids t.kids.length 0 l) (colR t l n) := by
      intro sg hsg hab hsn hk
      have hcol : colP t l n = accP t.kids sg l t.kids.length := by rw [colP_eq, h, if_pos rfl, hsn]; unfold accP; rw [List.take_length]
      have key := ev_list (P := fun i => (∀ k ∈ t.kids.take i, arT k = true) → Ev (fun m k => exponent_collect_L m (exponent_collect m) k sg t.kids t.kids.length i (accP t.kids sg l i)) (colR t l n)) t.kids (by omega)
        (fun hc ha => by
          refine Ev.loop ?_
          simp only [exponent_collect_l1, exponent_collect_s1]
          refine Ev.cf hc (Ev.ret ?_)
          unfold colR
          have : arT t = true := by
            rw [har, hk, Bool.true_and, List.all_eq_true]
            intro b hb
            obtain ⟨k, hk1, rfl⟩ := List.mem_map.1 hb
            rw [List.take_length] at ha
            exact ha k hk1
          rw [this, if_pos rfl, hcol])
        (fun i x hx hd hc hgt hi hP ha => by
          refine Ev.loop ?_
          simp only [exponent_collect_l1, exponent_collect_s1, re_eq]
          have hm := List.mem_of_getElem? hx
          have h1 := kid_lt t x hm
          obtain ⟨f1, f2, f3, f4⟩ := accP_facts sg hsg (t.kids.take i) l hg
          have h5 := szL_take_succ hx
          have h6 : szL t.kids + 1 = size t := by unfold szL; omega
          have h7 : szL (t.kids.take i) * sg.natAbs + size x * sg.natAbs ≤ size t * n.natAbs := by
            rw [← Nat.add_mul, hab]
            exact Nat.mul_le_mul_right _ (by omega)
          refine Ev.ct hc (Ev.some hgt (Ev.bind (ih x hm (accP t.kids sg l i) sg hsg f1 (by unfold accP; omega) (by unfold accP; omega)) (Ev.ite (fun hb1 => ?_) fun hb1 => ?_)))
          · rw [bnt] at hb1
            have hb1 : arT x = false := hb1
            refine Ev.ret ?_
            unfold colR
            have : arT t = false := by
              rw [har, hk, Bool.true_and, ← Bool.not_eq_true, List.all_eq_true]
              intro hall
              have := hall (arT x) (List.mem_map_of_mem hm)
              rw [hb1] at this; cases this
            rw [this]; rfl
          · rw [bnf] at hb1
            have hb1 : arT x = true := hb1
            have hP := hP fun k hk' => by
              rw [List.take_add_one, hx] at hk'
              rcases List.mem_append.1 hk' with hk' | hk'
              · exact ha k hk'
              · rw [show k = x from by simpa using hk']; exact hb1
            rw [hi]
            refine hP.congr fun m k => ?_
            unfold colR
            rw [accP_succ hx, hb1]; rfl)
      refine Ev.diag (L := fun m k => exponent_collect_L m (exponent_collect m) k sg t.kids t.kids.length 0 l) ?_
      exact (key 0 (Nat.zero_le _)) (fun k hk => by rw [List.take_zero] at hk; cases hk)
    have bad : arK t = false → Ev (fun _ _ => some ((), [], false, ())) (colR t l n) := fun hk => by
      refine Ev.ret ?_
      unfold colR
      rw [har, hk]; rfl
    have hneg : iw .i64 (isub 0 n) = -n := by
      have hmul : n.natAbs ≤ size t * n.natAbs := Nat.le_mul_of_pos_left _ (size_pos t)
      unfold isub
      rw [iw_id (by omega)]; omega
    rcases hname with hn1 | hn1 | hn1
    · refine Ev.cf (by rw [hn1]; rfl) (Ev.cf (by rw [hn1]; rfl) (Ev.ct (by rw [hn1]; rfl) (Ev.ite (fun hk => ?_) fun hk => ?_)))
      · rw [ilt_t] at hk
        exact bad (by unfold arK; rw [hn1, decide_eq_true (show t.kids.length < 2 by omega)]; rfl)
      · rw [ilt_f] at hk
        exact Ev.cf (by rw [hn1]; rfl) (loop n hn rfl (by unfold sgnP; rw [hn1]; rfl) (by unfold arK; rw [hn1, decide_eq_false (show ¬ t.kids.length < 2 by omega)]; rfl))
    · refine Ev.cf (by rw [hn1]; rfl) (Ev.ct (by rw [hn1]; rfl) (Ev.ite (fun hk => ?_) fun hk => ?_))
      · rw [bnt, ieq_f] at hk
        exact bad (by unfold arK; rw [hn1, show (t.kids.length != 1) = true from by rw [bne_iff_ne]; omega]; rfl)
      · rw [bnf, ieq_t] at hk
        rw [hneg]
        exact Ev.cf (by rw [hn1]; rfl) (Ev.ct (by rw [hn1]; rfl) (loop (-n) (by omega) (by omega) (by unfold sgnP; rw [if_pos hn1]) (by unfold arK; rw [hn1, show (t.kids.length != 1) = false from by rw [bne_eq_false_iff_eq]; omega]; rfl)))
    · refine Ev.ct (by rw [hn1]; rfl) (Ev.ite (fun hk => ?_) fun hk => ?_)
      · rw [bnt, ieq_f] at hk
        exact bad (by unfold arK; rw [hn1, show (t.kids.length != 0) = true from by rw [bne_iff_ne]; omega]; rfl)
      · rw [bnf, ieq_t] at hk
        exact Ev.cf (by rw [hn1]; rfl) (Ev.cf (by rw [hn1]; rfl) (Ev.cf (by rw [hn1]; rfl) (loop n hn rfl (by unfold sgnP; rw [hn1]; rfl) (by unfold arK; rw [hn1, show (t.kids.length != 0) = false from by rw [bne_eq_false_iff_eq]; omega]; rfl))))
theorem eof_ev (t : T) (hs : size t ≤ 1000000000) : Ev (fun m _ => exponent_Of m t) (ofP t) := by
  refine Ev.succ ?_
  simp only [exponent_Of_e, exponent_Of_s0, re_eq]
  unfold ofP
  refine Ev.bind (tvalid_ev t hs) (Ev.ite (fun h => ?_) fun h => ?_)
  · rw [bnt, ieq_f] at h
    rw [if_pos h]; exact Ev.pure _
  · rw [bnf, ieq_t] at h
    have hz := validE_sz h
    rw [if_neg (by omega)]
    refine Ev.bind (collect_ev t [] 1 (by decide) GoodP.nil (by show 0 + _ ≤ _; omega) (by show 0 + size t * 1 ≤ _; omega)) (Ev.ite (fun h1 => ?_) fun h1 => ?_)
    · rw [bnt] at h1
      have h1 : arT t = false := h1
      rw [if_pos h1]; exact Ev.pure _
    · rw [bnf] at h1
      have h1 : arT t = true := h1
      rw [if_neg (by rw [h1]; decide)]
      have e : (colR t [] 1).2.1 = colP t [] 1 := by unfold colR; rw [h1]; rfl
      rw [e]
      refine Ev.ite (fun h2 => ?_) fun h2 => ?_
      · rw [ilt_t] at h2
        rw [if_pos (by omega)]; exact Ev.pure _
      · rw [ilt_f] at h2
        rw [if_neg (by omega)]; exact Ev.pure _
/-- The term ahead of place i. -/
noncomputable def prevT (l : List Pw) (i : Nat) : Option T := if i = 0 then none else (l[i - 1]?).map (·.1)
theorem prevT_succ {l : List Pw} {i : Nat} {p : Pw} (h : l[i]? = some p) : prevT l (i + 1) = some p.1 := by
  unfold prevT
  rw [if_neg (by omega), Nat.add_sub_cancel, h]; rfl
theorem evalid_ev (l : List Pw) (hs : szP l ≤ 1000000000) : Ev (fun m _ => exponent_valid m l) (pvalE l) := by
  have hl := len_szP l
  refine Ev.succ ?_
  simp only [exponent_valid_e, exponent_valid_s0]
  unfold pvalE
  refine Ev.ite (fun h => ?_) fun h => ?_
  · rw [ilt_t] at h
    rw [if_pos (by omega)]; exact Ev.pure _
  rw [ilt_f] at h
  rw [if_neg (by omega)]
  have key := ev_list (P := fun i => Ev (fun m k => exponent_valid_L m k l l l.length i) (pvL (prevT l i) (l.drop i))) l (by omega)
    (fun hc => by
      refine Ev.loop ?_
      simp only [exponent_valid_l1, exponent_valid_s1]
      refine Ev.cf hc (Ev.ret ?_)
      rw [List.drop_length]; rfl)
    (fun i x hx hd hc hg hi hP => by
      refine Ev.loop ?_
      simp only [exponent_valid_l1, exponent_valid_s1, re_eq]
      have h1 := mem_szP (List.mem_of_getElem? hx)
      rw [prevT_succ hx] at hP
      rw [hd, pvL]
      have hk := pvK_eq (prevT l i) x
      have bad : ∀ e : Int, pvK (prevT l i) x = e → e ≠ 0 → Ev (fun _ _ => some e) (thn (pvK (prevT l i) x) (pvL (some x.1) (l.drop (i + 1)))) := fun e he h0 => by
        rw [he]
        exact Ev.ret (by unfold thn; rw [if_neg h0])
      have good : pvK (prevT l i) x = 0 → Ev (fun m k => exponent_valid_L m k l l l.length ((i + 1 : Nat) : Int)) (thn (pvK (prevT l i) x) (pvL (some x.1) (l.drop (i + 1)))) := fun he => by
        rw [he]
        exact hP.res (by unfold thn; rw [if_pos rfl])
      refine Ev.ct hc (Ev.some hg (Ev.bind (tvalid_ev x.1 (by omega)) (Ev.ite (fun hv => ?_) fun hv => ?_)))
      · rw [bnt, ieq_f] at hv
        exact bad _ (by rw [hk, if_pos hv]) hv
      rw [bnf, ieq_t] at hv
      rw [if_neg (by omega)] at hk
      refine Ev.bind (esym_ev x.1) (Ev.ite (fun hv2 => ?_) fun hv2 => ?_)
      · exact bad 1 (by rw [hk, if_pos hv2]) (by decide)
      rw [if_neg (by rw [hv2]; decide)] at hk
      refine Ev.ite (fun hz => ?_) fun hz => ?_
      · rw [ieq_t] at hz
        exact bad 7 (by rw [hk, if_pos (by omega)]) (by decide)
      rw [ieq_f] at hz
      refine Ev.ite (fun hz2 => ?_) fun hz2 => ?_
      · rw [ilt_t] at hz2
        exact bad 7 (by rw [hk, if_pos (by omega)]) (by decide)
      rw [ilt_f] at hz2
      refine Ev.ite (fun hz3 => ?_) fun hz3 => ?_
      · rw [ilt_t] at hz3
        exact bad 7 (by rw [hk, if_pos (by omega)]) (by decide)
      rw [ilt_f] at hz3
      rw [if_neg (by omega)] at hk
      rw [hi]
      refine Ev.ite (fun h0 => ?_) fun h0 => ?_
      · rw [ilt_t] at h0
        obtain ⟨j, rfl⟩ : ∃ j, i = j + 1 := ⟨i - 1, by omega⟩
        have hlt : j < l.length := by have := (List.getElem?_eq_some_iff.1 hx).1; omega
        obtain ⟨q, hq⟩ : ∃ q, l[j]? = some q := ⟨_, List.getElem?_eq_getElem hlt⟩
        have h2 := mem_szP (List.mem_of_getElem? hq)
        rw [prevT_succ hq] at hk bad good ⊢
        simp only at hk
        refine Ev.some (a := q) (by rw [show isub ((j + 1 : Nat) : Int) 1 = ((j : Nat) : Int) from by unfold isub; omega, iw_id (by omega), lget_nat, hq]) (Ev.bind (tcompare_ev q.1 (by omega) x.1 (by omega)) (Ev.ite (fun hc2 => ?_) fun hc2 => ?_))
        · rw [ile_t] at hc2
          exact bad 5 (by rw [hk, if_pos hc2]) (by decide)
        · rw [ile_f] at hc2
          exact good (by rw [hk, if_neg (by omega)])
      · rw [ilt_f] at h0
        have : i = 0 := by omega
        subst this
        exact good (by rw [hk]; rfl))
  refine Ev.diag (L := fun m k => exponent_valid_L m k l l l.length 0) ?_
  exact key 0 (Nat.zero_le _)
end Go.AmYtmodnblfcikjlaaGreat
namespace Go.AmYtmodnblfcikjlaaGreat
open Go Go.GxYtmodnblfcikjlaaGreat
theorem take_succ_of {α : Type} {l : List α} {i : Nat} {x : α} (h : l[i]? = some x) : l.take (i + 1) = l.take i ++ [x] := by rw [List.take_add_one, h]; rfl
theorem posL_app (a b : List Pw) : posL (a ++ b) = posL a ++ posL b := by unfold posL; rw [List.flatMap_append]
theorem negL_app (a b : List Pw) : negL (a ++ b) = negL a ++ negL b := by unfold negL; rw [List.flatMap_append]
theorem posL_one (p : Pw) : posL [p] = List.replicate p.2.toNat p.1 := by unfold posL; simp
theorem negL_one (p : Pw) : negL [p] = List.replicate (-p.2).toNat (apT nInv [p.1]) := by unfold negL; simp
theorem szL_rep (n : Nat) (x : T) : szL (List.replicate n x) = n * size x := by
  induction n with
  | zero => simp [szL]
  | succ n ih => rw [List.replicate_succ, szL_cons, ih, Nat.add_mul]; omega
theorem size_inv (t : T) : size (apT nInv [t]) = 1 + size t := by rw [size_eq]; show 1 + (size t + 0) = _; omega
/-- Loops that count. -/
theorem ev_count {P : Nat → Prop} (N : Int) (hN : N ≤ 1000000) (hend : P N.toNat) (hstep : ∀ j : Nat, (j : Int) < N → iw .i64 (iadd (j : Int) 1) = ((j + 1 : Nat) : Int) → P (j + 1) → P j) : ∀ j : Nat, j ≤ N.toNat → P j := by
  intro j hj
  obtain ⟨d, hd⟩ : ∃ d, N.toNat = j + d := ⟨N.toNat - j, by omega⟩
  induction d generalizing j with
  | zero =>
    have : j = N.toNat := by omega
    subst this; exact hend
  | succ d ih =>
    refine hstep j (by omega) ?_ (ih (j + 1) (by omega) (by omega))
    unfold iadd
    rw [iw_id (by omega)]; omega
theorem big_pos {l : List Pw} {p : Pw} (hp : p ∈ l) (h : 8 < p.2) : 8 < (posL l ++ negL l).length := by
  have : (List.replicate p.2.toNat p.1).length ≤ (posL l).length := Nat.le_trans (List.sublist_flatten_of_mem (List.mem_map_of_mem (f := fun p : Pw => List.replicate p.2.toNat p.1) hp)).length_le (by unfold posL; rw [List.flatMap_def]; exact Nat.le_refl _)
  rw [List.length_replicate] at this
  rw [List.length_append]; omega
theorem big_neg {l : List Pw} {p : Pw} (hp : p ∈ l) (h : p.2 < -8) : 8 < (posL l ++ negL l).length := by
  have : (List.replicate (-p.2).toNat (apT nInv [p.1])).length ≤ (negL l).length := Nat.le_trans (List.sublist_flatten_of_mem (List.mem_map_of_mem (f := fun p : Pw => List.replicate (-p.2).toNat (apT nInv [p.1])) hp)).length_le (by unfold negL; rw [List.flatMap_def]; exact Nat.le_refl _)
  rw [List.length_replicate] at this
  rw [List.length_append]; omega
theorem outP_sz (o : List T) : size (outP o) ≤ 1 + szL o := by
  unfold outP
  split
  · rw [size_eq]; show 1 + 0 ≤ _; omega
  · split
    · rename_i _ h1l
      have : o.getD 0 zT ∈ o := by
        cases o with
        | nil => cases h1l
        | cons x r => exact List.mem_cons_self ..
      have := mem_szL this; omega
    · rw [size_eq]; exact Nat.le_refl _
/-- Counts and sizes of the operands of the first places. -/
theorem ops_bound {l : List Pw} (hsz : ∀ p ∈ l, size p.1 ≤ 400) : ∀ (ks : List Pw), (∀ p ∈ ks, p ∈ l ∧ -8 ≤ p.2 ∧ p.2 ≤ 8) → (posL ks).length ≤ 8 * ks.length ∧ (negL ks).length ≤ 8 * ks.length ∧ szL (posL ks) ≤ 3200 * ks.length ∧ szL (negL ks) ≤ 3208 * ks.length
  | [], _ => ⟨Nat.le_refl _, Nat.le_refl _, Nat.le_refl _, Nat.le_refl _⟩
  | p :: ks, h => by
    obtain ⟨i1, i2, i3, i4⟩ := ops_bound hsz ks fun q hq => h q (List.mem_cons_of_mem _ hq)
    obtain ⟨h1, h2, h3⟩ := h p (List.mem_cons_self ..)
    have h4 := hsz p h1
    have e1 : posL (p :: ks) = List.replicate p.2.toNat p.1 ++ posL ks := by rw [show p :: ks = [p] ++ ks from rfl, posL_app, posL_one]
    have e2 : negL (p :: ks) = List.replicate (-p.2).toNat (apT nInv [p.1]) ++ negL ks := by rw [show p :: ks = [p] ++ ks from rfl, negL_app, negL_one]
    have m1 : p.2.toNat * size p.1 ≤ 8 * 400 := Nat.mul_le_mul (by omega) h4
    have m2 : (-p.2).toNat * (1 + size p.1) ≤ 8 * 401 := Nat.mul_le_mul (by omega) (by omega)
    rw [e1, e2, szL_app, szL_app, szL_rep, szL_rep, size_inv]
    simp only [List.length_append, List.length_replicate, List.length_cons]
    refine ⟨by omega, by omega, by omega, by omega⟩
/-- Behind the operands. -/
noncomputable def endP (o : List T) : T × Int := if 8 < o.length then (zT, 3) else if validE (outP o) ≠ 0 then (zT, validE (outP o)) else (outP o, 0)
theorem termP_end {l : List Pw} (h : pvalE l = 0) : termP l = endP (posL l ++ negL l) := by
  unfold termP endP
  rw [if_neg (by omega)]
theorem eterm_ev (l : List Pw) (hs : szP l ≤ 1000000000) : Ev (fun m _ => exponent_Term m l) (termP l) := by
  refine Ev.succ ?_
  simp only [exponent_Term_e, exponent_Term_s0]
  refine Ev.bind (evalid_ev l hs) (Ev.ite (fun h => ?_) fun h => ?_)
  · rw [bnt, ieq_f] at h
    unfold termP
    rw [if_pos h]; exact Ev.pure _
  rw [bnf, ieq_t] at h
  obtain ⟨_, hlen, hN, hV⟩ := pvalE_good h
  have hsz : ∀ p ∈ l, size p.1 ≤ 400 := fun p hp => validE_sz (hV p hp).1
  rw [termP_end h]
  have key := ev_list (P := fun i => (∀ p ∈ l.take i, p ∈ l ∧ -8 ≤ p.2 ∧ p.2 ≤ 8) → Ev (fun m k => (exponent_Term_L m k).1 l l.length i 0 [] 0 [] (posL (l.take i)) (negL (l.take i))) (endP (posL l ++ negL l))) l (by omega)
    (fun hc hb => by
      refine Ev.loop ?_
      simp only [exponent_Term_l1, exponent_Term_s1, re_eq]
      rw [List.take_length] at hb ⊢
      obtain ⟨b1, b2, b3, b4⟩ := ops_bound hsz l hb
      refine Ev.cf hc (Ev.bind (concat2_ev (posL l) (negL l) (by omega)) ?_)
      have ho : szL (posL l ++ negL l) ≤ 10000000 := by rw [szL_app]; omega
      generalize posL l ++ negL l = o at *
      have hol := len_szL o
      have hoz := outP_sz o
      unfold endP
      refine Ev.ite (fun h8 => ?_) fun h8 => ?_
      · rw [ilt_t] at h8
        rw [if_pos (by omega)]; exact Ev.pure _
      rw [ilt_f] at h8
      rw [if_neg (by omega)]
      have fin : ∀ u : T, u = outP o → Ev (fun m _ => obind (term_Valid m u) fun v => cond (bnot (ieq v 0)) (some (T.mk 0 [] 0 [], v)) (some (u, 0))) (if validE (outP o) ≠ 0 then (zT, validE (outP o)) else (outP o, 0)) := by
        intro u hu
        subst hu
        refine Ev.bind (tvalid_ev _ (by omega)) (Ev.ite (fun h => ?_) fun h => ?_)
        · rw [bnt, ieq_f] at h
          rw [if_pos h]; exact Ev.pure _
        · rw [bnf, ieq_t] at h
          rw [if_neg (by omega)]; exact Ev.pure _
      have app : ∀ (n : List UInt8) (x : List T), Ev (fun m _ => exponent_app m n x) (apT n x) := fun n x => Ev.succ (Ev.pure _)
      refine Ev.bind (app [109, 117, 108] o) (Ev.ite (fun h0 => ?_) fun h0 => ?_)
      · rw [ieq_t] at h0
        exact Ev.bind (app [111, 110, 101] []) (fin _ (by unfold outP; rw [if_pos (by omega)]; rfl))
      · rw [ieq_f] at h0
        refine Ev.ite (fun h1 => ?_) fun h1 => ?_
        · rw [ieq_t] at h1
          refine Ev.some (a := o.getD 0 zT) ?_ (fin _ (by unfold outP; rw [if_neg (by omega), if_pos (by omega)]))
          rw [lget_zero, List.getD_eq_getElem?_getD]
          cases o with
          | nil => simp at h1
          | cons x r => rfl
        · rw [ieq_f] at h1
          exact fin _ (by unfold outP; rw [if_neg (by omega), if_neg (by omega)]; rfl))
    (fun i p hx hd hc hg hi hP hb => by
      refine Ev.loop ?_
      simp only [exponent_Term_l1, exponent_Term_s1]
      have hm := List.mem_of_getElem? hx
      have hn := hN p hm
      have hz := hsz p hm
      have hib := (List.getElem?_eq_some_iff.1 hx).1
      refine Ev.ct hc (Ev.some hg (Ev.ite (fun h8 => ?_) fun h8 => ?_))
      · rw [ilt_t] at h8
        unfold endP
        rw [if_pos (big_pos hm h8)]; exact Ev.pure _
      rw [ilt_f] at h8
      refine Ev.ite (fun h9 => ?_) fun h9 => ?_
      · rw [ilt_t] at h9
        unfold endP
        rw [if_pos (big_neg hm h9)]; exact Ev.pure _
      rw [ilt_f] at h9
      obtain ⟨b1, b2, b3, b4⟩ := ops_bound hsz _ hb
      have htl : (l.take i).length ≤ 200 := by rw [List.length_take]; omega
      have hP := hP fun q hq => by
        rw [take_succ_of hx] at hq
        rcases List.mem_append.1 hq with hq | hq
        · exact hb q hq
        · rw [show q = p from by simpa using hq]; exact ⟨hm, h9, h8⟩
      rw [take_succ_of hx, posL_app, negL_app, posL_one, negL_one] at hP
      generalize posL (l.take i) = P0 at *
      generalize negL (l.take i) = N0 at *
      -- the second inner loop
      have k3 := ev_count (P := fun j => Ev (fun m k => (exponent_Term_L m k).2.2 l l.length i (-p.2) j 0 [] 0 p.1.kind p.1.name p.1.sort p.1.kids p.2 [] (P0 ++ List.replicate p.2.toNat p.1) (N0 ++ List.replicate j (apT nInv [p.1]))) (endP (posL l ++ negL l))) (-p.2) (by omega)
        (by
          refine Ev.loop ?_
          simp only [exponent_Term_l3, exponent_Term_s3]
          refine Ev.cf (ilt_f.2 (by omega)) ?_
          rw [hi]
          exact hP)
        (fun j hj hji hPj => by
          refine Ev.loop ?_
          simp only [exponent_Term_l3, exponent_Term_s3, re_eq]
          rw [show T.mk p.1.kind p.1.name p.1.sort p.1.kids = p.1 from re_eq p.1, hji]
          refine Ev.ct (ilt_t.2 hj) (Ev.bind (eclone_ev p.1 (by omega)) (Ev.bind (a := apT nInv [p.1]) (Ev.succ (Ev.pure _)) (Ev.ct (room_t (by rw [List.length_append, List.length_replicate]; omega) (by omega)) ?_)))
          refine hPj.congr fun m k => ?_
          rw [List.replicate_succ', List.append_assoc])
      have k2 := ev_count (P := fun j => Ev (fun m k => (exponent_Term_L m k).2.1 l l.length i p.2 j 0 [] 0 p.1.kind p.1.name p.1.sort p.1.kids p.2 [] (P0 ++ List.replicate j p.1) N0) (endP (posL l ++ negL l))) p.2 (by omega)
        (by
          refine Ev.loop ?_
          simp only [exponent_Term_l2, exponent_Term_s2]
          refine Ev.cf (ilt_f.2 (by omega)) ?_
          rw [show iw .i64 (isub 0 p.2) = -p.2 from by unfold isub; rw [iw_id (by omega)]; omega]
          have := k3 0 (Nat.zero_le _)
          rw [List.replicate_zero, List.append_nil] at this
          exact this)
        (fun j hj hji hPj => by
          refine Ev.loop ?_
          simp only [exponent_Term_l2, exponent_Term_s2, re_eq]
          rw [show T.mk p.1.kind p.1.name p.1.sort p.1.kids = p.1 from re_eq p.1, hji]
          refine Ev.ct (ilt_t.2 hj) (Ev.bind (eclone_ev p.1 (by omega)) (Ev.ct (room_t (by rw [List.length_append, List.length_replicate]; omega) (by omega)) ?_))
          refine hPj.congr fun m k => ?_
          rw [List.replicate_succ', List.append_assoc])
      have := k2 0 (Nat.zero_le _)
      rw [List.replicate_zero, List.append_nil] at this
      exact this)
  refine Ev.diag (L := fun m k => (exponent_Term_L m k).1 l l.length 0 0 [] 0 [] [] []) ?_
  exact (key 0 (Nat.zero_le _)) (fun p hp => by rw [List.take_zero] at hp; cases hp)
theorem ecop_ev (l : List Pw) (hs : szP l ≤ 100000000) : Ev (fun m _ => exponent_copied m l) ((), l, ()) := by
  have hl := len_szP l
  refine Ev.succ ?_
  simp only [exponent_copied_e, exponent_copied_s0]
  have key := ev_list (P := fun i => Ev (fun m k => exponent_copied_L m k l l.length i (l.take i)) ((), l, ())) l (by omega)
    (fun hc => by
      refine Ev.loop ?_
      simp only [exponent_copied_l1, exponent_copied_s1]
      refine Ev.cf hc ?_
      rw [List.take_length]; exact Ev.pure _)
    (fun i p hx hd hc hg hi hP => by
      refine Ev.loop ?_
      simp only [exponent_copied_l1, exponent_copied_s1, re_eq]
      have h1 := mem_szP (List.mem_of_getElem? hx)
      have h2 : (l.take i).length ≤ l.length := by rw [List.length_take]; omega
      refine Ev.ct hc (Ev.some hg (Ev.bind (eclone_ev p.1 (by omega)) (Ev.ct (room_t (by omega) (by omega)) ?_)))
      rw [hi]
      refine hP.congr fun m k => ?_
      rw [take_succ_of hx])
  refine Ev.diag (L := fun m k => exponent_copied_L m k l l.length 0 []) ?_
  exact key 0 (Nat.zero_le _)
theorem farP_cons (p : Pw) (l : List Pw) : farP (p :: l) = ((decide (p.2 < -1000) || decide (1000 < p.2)) || farP l) := rfl
theorem eidx_ev (l : List Pw) (hl : l.length ≤ 1000000000) : ∃ v, Ev (fun m _ => slices_IndexFunc_api_Power_api_Power_of_162 m l) v ∧ ile 0 v = farP l := by
  have key := ev_list (P := fun i => ∃ v, Ev (fun m k => slices_IndexFunc_api_Power_api_Power_of_162_L m k l l.length i) v ∧ ile 0 v = farP (l.drop i)) l (by omega)
    (fun hc => by
      refine ⟨-1, Ev.loop ?_, by rw [List.drop_length]; rfl⟩
      simp only [slices_IndexFunc_api_Power_api_Power_of_162_l1, slices_IndexFunc_api_Power_api_Power_of_162_s1]
      exact Ev.cf hc (Ev.pure _))
    (fun i p hx hd hc hg hi hP => by
      obtain ⟨v, hv, hf⟩ := hP
      rw [hd, farP_cons]
      have hq : Ev (fun m _ => exponent_result_1 m (p.1, p.2)) (decide (p.2 < -1000) || decide (1000 < p.2)) := by
        refine Ev.succ ?_
        simp only [exponent_result_1_e, exponent_result_1_s0]
        refine Ev.ite (fun h => ?_) fun h => ?_
        · rw [ilt_t] at h
          exact Ev.ret (by rw [decide_eq_true h]; rfl)
        · rw [ilt_f] at h
          exact Ev.ret (by rw [decide_eq_false (show ¬ p.2 < -1000 by omega)]; rfl)
      cases hb : decide (p.2 < -1000) || decide (1000 < p.2) with
      | true =>
        refine ⟨i, Ev.loop ?_, by rw [Bool.true_or, ile_t]; omega⟩
        simp only [slices_IndexFunc_api_Power_api_Power_of_162_l1, slices_IndexFunc_api_Power_api_Power_of_162_s1, re_eq]
        exact Ev.ct hc (Ev.some hg (Ev.bind hq (Ev.ct hb (Ev.pure _))))
      | false =>
        refine ⟨v, Ev.loop ?_, by rw [Bool.false_or]; exact hf⟩
        simp only [slices_IndexFunc_api_Power_api_Power_of_162_l1, slices_IndexFunc_api_Power_api_Power_of_162_s1, re_eq]
        refine Ev.ct hc (Ev.some hg (Ev.bind hq (Ev.cf hb ?_)))
        rw [hi]; exact hv)
  obtain ⟨v, hv, hf⟩ := key 0 (Nat.zero_le _)
  refine ⟨v, Ev.succ ?_, by rw [hf, List.drop_zero]⟩
  simp only [slices_IndexFunc_api_Power_api_Power_of_162_e, slices_IndexFunc_api_Power_api_Power_of_162_s0]
  exact Ev.diag (L := fun m k => slices_IndexFunc_api_Power_api_Power_of_162_L m k l l.length 0) hv
noncomputable def resPd (l : List Pw) : List Pw × Int := if farP l then ([], 7) else if 200 < l.length then ([], 3) else (l, 0)
theorem eres_ev (l : List Pw) (hl : l.length ≤ 1000000000) : Ev (fun m _ => exponent_result m l) (resPd l) := by
  obtain ⟨v, hv, hf⟩ := eidx_ev l hl
  refine Ev.succ ?_
  simp only [exponent_result_e, exponent_result_s0]
  have hc : Ev (fun m _ => slices_ContainsFunc_api_Power_api_Power_of_162 m l) (farP l) := by
    refine Ev.succ ?_
    simp only [slices_ContainsFunc_api_Power_api_Power_of_162_e, slices_ContainsFunc_api_Power_api_Power_of_162_s0]
    exact Ev.bind hv (Ev.ret hf)
  unfold resPd
  refine Ev.bind hc (Ev.ite (fun h => ?_) fun h => ?_)
  · rw [if_pos h]; exact Ev.pure _
  · rw [if_neg (by rw [h]; decide)]
    refine Ev.ite (fun h2 => ?_) fun h2 => ?_
    · rw [ilt_t] at h2
      rw [if_pos (by omega)]; exact Ev.pure _
    · rw [ilt_f] at h2
      rw [if_neg (by omega)]; exact Ev.pure _
theorem szP_le (S : Nat) : ∀ l : List Pw, (∀ p ∈ l, size p.1 ≤ S) → szP l ≤ l.length * S
  | [], _ => by simp [szP]
  | p :: l, h => by
    have h1 := szP_le S l fun q hq => h q (List.mem_cons_of_mem _ hq)
    have h2 := h p (List.mem_cons_self ..)
    rw [szP_cons, List.length_cons, Nat.add_mul]; omega
theorem mulP_resPd (a b : List Pw) : mulP a b = if pvalE a ≠ 0 then ([], pvalE a) else if pvalE b ≠ 0 then ([], pvalE b) else resPd (mulL a b) := rfl
/-- What is known of the sums on the way. -/
theorem mul_bounds {a b : List Pw} (ha : pvalE a = 0) (hb : pvalE b = 0) (j : Nat) :
    GoodP (mulL a (b.take j)) ∧ (mulL a (b.take j)).length ≤ 400 ∧ szP (mulL a (b.take j)) ≤ 160000 ∧ absS (mulL a (b.take j)) ≤ 400000 := by
  obtain ⟨g1, l1, k1, v1⟩ := pvalE_good ha
  obtain ⟨g2, l2, k2, v2⟩ := pvalE_good hb
  have hm : ∀ p ∈ b.take j, p ∈ b := fun p hp => List.mem_of_mem_take hp
  obtain ⟨h1, h2, h3, h4⟩ := mulL_facts ha hb 400 (fun p hp => validE_sz (v1 p hp).1) (fun p hp => validE_sz (v2 p hp).1) j
  have h5 := szP_le 400 _ h4
  obtain ⟨h6, _⟩ := mulL_abs (b.take j) a
  have h7 := absS_le 1000 a k1
  have h8 := absS_le 1000 (b.take j) fun p hp => k2 p (hm p hp)
  have h9 : (b.take j).length ≤ 200 := by rw [List.length_take]; omega
  refine ⟨mulL_good _ _ g1 fun p hp => g2.2 p (hm p hp), h2, Nat.le_trans h5 (Nat.mul_le_mul_right 400 h2), ?_⟩
  have m1 : a.length * 1000 ≤ 200 * 1000 := Nat.mul_le_mul_right _ l1
  have m2 : (b.take j).length * 1000 ≤ 200 * 1000 := Nat.mul_le_mul_right _ h9
  omega
theorem emul_ev (a b : List Pw) (ha : szP a ≤ 100000000) (hb : szP b ≤ 100000000) : Ev (fun m _ => exponent_Mul m a b) (mulP a b) := by
  have hl := len_szP b
  refine Ev.succ ?_
  simp only [exponent_Mul_e, exponent_Mul_s0]
  rw [mulP_resPd]
  refine Ev.bind (evalid_ev a (by omega)) (Ev.ite (fun h => ?_) fun h => ?_)
  · rw [bnt, ieq_f] at h
    rw [if_pos h]; exact Ev.pure _
  rw [bnf, ieq_t] at h
  rw [if_neg (by omega)]
  refine Ev.bind (evalid_ev b (by omega)) (Ev.ite (fun h2 => ?_) fun h2 => ?_)
  · rw [bnt, ieq_f] at h2
    rw [if_pos h2]; exact Ev.pure _
  rw [bnf, ieq_t] at h2
  rw [if_neg (by omega)]
  refine Ev.bind (ecop_ev a ha) ?_
  have key := ev_list (P := fun i => Ev (fun m k => exponent_Mul_L m k b b.length i (mulL a (b.take i))) (resPd (mulL a b))) b (by omega)
    (fun hc => by
      refine Ev.loop ?_
      simp only [exponent_Mul_l1, exponent_Mul_s1]
      rw [List.take_length]
      obtain ⟨_, b2, _, _⟩ := mul_bounds h h2 b.length
      rw [List.take_length] at b2
      exact Ev.cf hc (Ev.bind (eres_ev _ (by omega)) (Ev.pure _)))
    (fun i p hx hd hc hg hi hP => by
      refine Ev.loop ?_
      simp only [exponent_Mul_l1, exponent_Mul_s1, re_eq]
      have hm := List.mem_of_getElem? hx
      obtain ⟨b1, b2, b3, b4⟩ := mul_bounds h h2 i
      obtain ⟨_, _, hn, hv⟩ := pvalE_good h2
      have hz := validE_sz (hv p hm).1
      have hnp := hn p hm
      refine Ev.ct hc (Ev.some hg (Ev.bind (einsert_ev b1.1 p.1 p.2 (by omega) (by omega) (by omega)) ?_))
      rw [hi]
      refine hP.congr fun m k => ?_
      rw [take_succ_of hx, mulL_snoc])
  refine Ev.diag (L := fun m k => exponent_Mul_L m k b b.length 0 a) ?_
  exact key 0 (Nat.zero_le _)
end Go.AmYtmodnblfcikjlaaGreat
namespace Go.AmYtmodnblfcikjlaaGreat
open Go Go.GxYtmodnblfcikjlaaGreat
theorem rsp_ev (t : T) : Ev (fun m _ => ref06_special m t) (specT t) := by
  refine Ev.succ ?_
  simp only [ref06_special_e, ref06_special_s0]
  unfold specT
  by_cases h3 : t.kind = 3
  · refine Ev.ct (ieq_t.2 h3) (Ev.ite (fun h => ?_) fun h => (Ev.ite (fun h2 => ?_) fun h2 => ?_))
    · rw [seq_t] at h
      exact Ev.ret (by rw [h3, h]; rfl)
    · rw [seq_t] at h2
      exact Ev.ret (by rw [h3, h2]; rfl)
    · rw [seq_f] at h h2
      exact Ev.ret (by
        have a1 : (t.name == nMul) = false := by rw [beq_eq_false_iff_ne]; exact h
        have a2 : (t.name == nInv) = false := by rw [beq_eq_false_iff_ne]; exact h2
        rw [h3, a1, a2]; rfl)
  · exact Ev.cf (ieq_f.2 h3) (Ev.ret (by have : (t.kind == 3) = false := by rw [beq_eq_false_iff_ne]; exact h3
                                         rw [this]; rfl))
theorem rarity_ev (t : T) : size t ≤ 1000000000 → Ev (fun m _ => ref06_arity m t) (arT t) := by
  induction t using T.ind with
  | h t ih =>
    intro hs
    have hl := kids_lt t
    refine Ev.succ ?_
    simp only [ref06_arity_e, ref06_arity_s0, re_eq]
    refine Ev.bind (rsp_ev t) (Ev.ite (fun h => ?_) fun h => ?_)
    · rw [bnt] at h
      exact Ev.ret (by rw [arT_eq, h]; rfl)
    rw [bnf] at h
    obtain ⟨h3, hname⟩ := specT_t.1 h
    have har : arT t = (arK t && (t.kids.map arT).all id) := by rw [arT_eq, h]; rfl
    have loop : arK t = true → Ev (fun m _ => ref06_arity_L m (ref06_arity m) m t.kids.length 0 t.kind t.name t.sort t.kids) (arT t) := by
      intro hk
      rw [har, hk, Bool.true_and]
      have key := ev_list (P := fun i => Ev (fun m k => ref06_arity_L m (ref06_arity m) k t.kids.length i t.kind t.name t.sort t.kids) (((t.kids.drop i).map arT).all id)) t.kids (by omega)
        (fun hc => by
          refine Ev.loop ?_
          simp only [ref06_arity_l1, ref06_arity_s1]
          refine Ev.cf hc (Ev.ret ?_)
          rw [List.drop_length]; rfl)
        (fun i x hx hd hc hg hi hP => by
          refine Ev.loop ?_
          simp only [ref06_arity_l1, ref06_arity_s1, re_eq]
          have hm := List.mem_of_getElem? hx
          have h1 := kid_lt t x hm
          rw [hd, List.map_cons, List.all_cons]
          refine Ev.ct hc (Ev.some hg (Ev.bind (ih x hm (by omega)) (Ev.ite (fun hb => ?_) fun hb => ?_)))
          · rw [bnt] at hb
            rw [hb]; exact Ev.pure _
          · rw [bnf] at hb
            rw [hb, hi]
            exact hP)
      refine Ev.diag (L := fun m k => ref06_arity_L m (ref06_arity m) k t.kids.length 0 t.kind t.name t.sort t.kids) ?_
      exact (key 0 (Nat.zero_le _)).res (by rw [List.drop_zero])
    have bad : arK t = false → Ev (fun _ _ => some false) (arT t) := fun hk => Ev.ret (by rw [har, hk]; rfl)
    rcases hname with hn1 | hn1 | hn1
    · refine Ev.ct (by rw [hn1]; rfl) (Ev.ite (fun hk => ?_) fun hk => ?_)
      · rw [ilt_t] at hk
        exact bad (by unfold arK; rw [hn1, decide_eq_true (show t.kids.length < 2 by omega)]; rfl)
      · rw [ilt_f] at hk
        exact Ev.cf (by rw [hn1]; rfl) (Ev.cf (by rw [hn1]; rfl) (loop (by unfold arK; rw [hn1, decide_eq_false (show ¬ t.kids.length < 2 by omega)]; rfl)))
    · refine Ev.cf (by rw [hn1]; rfl) (Ev.ct (by rw [hn1]; rfl) (Ev.ite (fun hk => ?_) fun hk => ?_))
      · rw [bnt, ieq_f] at hk
        exact bad (by unfold arK; rw [hn1, show (t.kids.length != 1) = true from by rw [bne_iff_ne]; omega]; rfl)
      · rw [bnf, ieq_t] at hk
        exact Ev.cf (by rw [hn1]; rfl) (loop (by unfold arK; rw [hn1, show (t.kids.length != 1) = false from by rw [bne_eq_false_iff_eq]; omega]; rfl))
    · refine Ev.cf (by rw [hn1]; rfl) (Ev.cf (by rw [hn1]; rfl) (Ev.ct (by rw [hn1]; rfl) (Ev.ite (fun hk => ?_) fun hk => ?_)))
      · rw [bnt, ieq_f] at hk
        exact bad (by unfold arK; rw [hn1, show (t.kids.length != 0) = true from by rw [bne_iff_ne]; omega]; rfl)
      · rw [bnf, ieq_t] at hk
        exact loop (by unfold arK; rw [hn1, show (t.kids.length != 0) = false from by rw [bne_eq_false_iff_eq]; omega]; rfl)
theorem addPS_len (t : T) (n : Int) : ∀ (l : List Pw) (s : List Pw × Bool), (l.foldl (addPS t n) s).1.length ≤ s.1.length + 2 * l.length
  | [], s => by simp
  | x :: l, s => by
    have h := addPS_len t n l (addPS t n s x)
    have : (addPS t n s x).1.length ≤ s.1.length + 2 := by
      unfold addPS
      simp only [List.length_append]
      have a : (if s.2 = false ∧ cmpT t x.1 < 0 then s.1 ++ [(t, n)] else s.1).length ≤ s.1.length + 1 := by split <;> simp
      have b : (if (if cmpT t x.1 = 0 then x.2 + n else x.2) = 0 then ([] : List Pw) else [(x.1, if cmpT t x.1 = 0 then x.2 + n else x.2)]).length ≤ 1 := by generalize (if cmpT t x.1 = 0 then x.2 + n else x.2) = z; split <;> simp
      omega
    rw [List.foldl_cons, List.length_cons]; omega
theorem radd_ev {l : List Pw} (hg : GoodP l) (t : T) (n : Int) (hs : szP l + size t ≤ 1000000000) (hn : absS l + n.natAbs ≤ 1000000000000) : Ev (fun m _ => ref06_add m l t n) ((), insP l t n, ()) := by
  have hl := len_szP l
  refine Ev.succ ?_
  simp only [ref06_add_e, ref06_add_s0]
  have hlen : ∀ i, ((l.take i).foldl (addPS t n) ([], false)).1.length ≤ 2 * l.length := fun i => by
    have := addPS_len t n (l.take i) ([], false)
    have h2 : (l.take i).length ≤ l.length := by rw [List.length_take]; omega
    simp only [List.length_nil] at this; omega
  have key := ev_list (P := fun i => Ev (fun m k => ref06_add_L m k n ((l.take i).foldl (addPS t n) ([], false)).2 i t.kind t.name t.sort t.kids l ((l.take i).foldl (addPS t n) ([], false)).1) ((), insP l t n, ())) l (by omega)
    (fun hc => by
      refine Ev.loop ?_
      simp only [ref06_add_l1, ref06_add_s1]
      refine Ev.cf hc ?_
      have := hlen l.length
      have he := addPR_eq hg.2 hg.1 t n
      rw [List.take_length] at this ⊢
      unfold addPR at he
      refine Ev.ite (fun h => ?_) fun h => ?_
      · rw [bnt] at h
        rw [if_neg (by rw [h]; decide)] at he
        rw [show T.mk t.kind t.name t.sort t.kids = t from re_eq t, he]
        exact Ev.ct (room_t (by omega) (by omega)) (Ev.pure _)
      · rw [bnf] at h
        rw [if_pos h] at he
        rw [he]
        exact Ev.pure _)
    (fun i p hx hd hc hgt hi hP => by
      refine Ev.loop ?_
      simp only [ref06_add_l1, ref06_add_s1, re_eq]
      have hm := List.mem_of_getElem? hx
      have h1 := mem_szP hm
      have h2 := hlen i
      have h3 := abs_le l p hm
      have hnz := hg.2 p hm
      rw [take_succ_of hx, List.foldl_append] at hP
      generalize (l.take i).foldl (addPS t n) ([], false) = s at *
      have go : ∀ (b : Bool) (o : List Pw), addPS t n s p = (o, b) → Ev (fun m k => ref06_add_L m k n b ((i + 1 : Nat) : Int) t.kind t.name t.sort t.kids l o) ((), insP l t n, ()) := fun b o e => by
        have hP : Ev (fun m k => ref06_add_L m k n (addPS t n s p).2 ((i + 1 : Nat) : Int) t.kind t.name t.sort t.kids l (addPS t n s p).1) ((), insP l t n, ()) := hP
        rw [e] at hP; exact hP
      have e1 : iw .i64 (iadd p.2 n) = p.2 + n := by unfold iadd; exact iw_id (by omega)
      rw [show T.mk t.kind t.name t.sort t.kids = t from re_eq t, hi]
      have hz0 : bnot (ieq p.2 0) = true := bnt.2 (ieq_f.2 hnz)
      refine Ev.ct hc (Ev.some hgt (Ev.bind (rcompare_ev t (by omega) p.1 (by omega)) (Ev.ite (fun h => ?_) fun h => ?_)))
      · rw [bnt] at h
        refine Ev.ite (fun hc1 => ?_) fun hc1 => ?_
        · rw [ilt_t] at hc1
          refine Ev.ct (room_t (by omega) (by omega)) (Ev.some hgt (Ev.cf (ieq_f.2 (by omega)) (Ev.ct hz0 (Ev.ct (room_t (by rw [List.length_append]; simp only [List.length_cons, List.length_nil]; omega) (by omega)) (go _ _ ?_)))))
          unfold addPS
          rw [if_pos ⟨h, hc1⟩, if_neg (show ¬ cmpT t p.1 = 0 by omega), if_neg hnz, decide_eq_true (show cmpT t p.1 ≤ 0 by omega), Bool.or_true]
        · rw [ilt_f] at hc1
          refine Ev.some hgt (Ev.ite (fun hc2 => ?_) fun hc2 => ?_)
          · rw [ieq_t] at hc2
            refine Ev.ite (fun hz => ?_) fun hz => ?_
            · rw [bnt, ieq_f, e1] at hz
              refine Ev.ct (room_t (by omega) (by omega)) (go _ _ ?_)
              rw [e1]
              unfold addPS
              rw [if_neg (by omega), if_pos hc2, if_neg hz, decide_eq_true (show cmpT t p.1 ≤ 0 by omega), Bool.or_true]
            · rw [bnf, ieq_t, e1] at hz
              refine go _ _ ?_
              unfold addPS
              rw [if_neg (by omega), if_pos hc2, if_pos hz, decide_eq_true (show cmpT t p.1 ≤ 0 by omega), Bool.or_true, List.append_nil]
          · rw [ieq_f] at hc2
            refine Ev.ct hz0 (Ev.ct (room_t (by omega) (by omega)) (go _ _ ?_))
            unfold addPS
            rw [if_neg (by omega), if_neg hc2, if_neg hnz, decide_eq_false (show ¬ cmpT t p.1 ≤ 0 by omega), Bool.or_false]
      · rw [bnf] at h
        refine Ev.some hgt (Ev.ite (fun hc2 => ?_) fun hc2 => ?_)
        · rw [ieq_t] at hc2
          refine Ev.ite (fun hz => ?_) fun hz => ?_
          · rw [bnt, ieq_f, e1] at hz
            refine Ev.ct (room_t (by omega) (by omega)) (go _ _ ?_)
            rw [e1]
            unfold addPS
            rw [if_neg (by omega), if_pos hc2, if_neg hz, decide_eq_true (show cmpT t p.1 ≤ 0 by omega), Bool.or_true]
          · rw [bnf, ieq_t, e1] at hz
            refine go _ _ ?_
            unfold addPS
            rw [if_neg (by omega), if_pos hc2, if_pos hz, decide_eq_true (show cmpT t p.1 ≤ 0 by omega), Bool.or_true, List.append_nil]
        · rw [ieq_f] at hc2
          refine Ev.ct hz0 (Ev.ct (room_t (by omega) (by omega)) (go _ _ ?_))
          unfold addPS
          rw [if_neg (by rw [h]; intro hh; cases hh.1), if_neg hc2, if_neg hnz, h, Bool.true_or])
  refine Ev.diag (L := fun m k => ref06_add_L m k n false 0 t.kind t.name t.sort t.kids l []) ?_
  exact key 0 (Nat.zero_le _)
theorem rcollect_ev (t : T) : ∀ (l : List Pw) (n : Int), n ≠ 0 → GoodP l → szP l + size t ≤ 80000000 → absS l + size t * n.natAbs ≤ 100000000000 → Ev (fun m _ => ref06_collect m l t n) ((), colP t l n, ()) := by
  induction t using T.ind with
  | h t ih =>
    intro l n hn hg hs hb
    have hl := kids_lt t
    have hz := size_eq t
    refine Ev.succ ?_
    simp only [ref06_collect_e, ref06_collect_s0, re_eq]
    have hmul : n.natAbs ≤ size t * n.natAbs := Nat.le_mul_of_pos_left _ (size_pos t)
    refine Ev.bind (rsp_ev t) (Ev.ite (fun h => ?_) fun h => ?_)
    · rw [bnt] at h
      refine Ev.bind (radd_ev hg t n (by omega) (by omega)) (Ev.ret ?_)
      rw [colP_eq, h]; rfl
    rw [bnf] at h
    obtain ⟨h3, hname⟩ := specT_t.1 h
    have loop : ∀ sg : Int, sg ≠ 0 → sg.natAbs = n.natAbs → sgnP t n = sg → Ev (fun m _ => ref06_collect_L m (ref06_collect m) m sg 0 t.kind t.name t.sort t.kids l) ((), colP t l n, ()) := by
      intro sg hsg hab hsn
      have hcol : colP t l n = accP t.kids sg l t.kids.length := by rw [colP_eq, h, if_pos rfl, hsn]; unfold accP; rw [List.take_length]
      rw [hcol]
      have key := ev_list (P := fun i => Ev (fun m k => ref06_collect_L m (ref06_collect m) k sg i t.kind t.name t.sort t.kids (accP t.kids sg l i)) ((), accP t.kids sg l t.kids.length, ())) t.kids (by omega)
        (fun hc => by
          refine Ev.loop ?_
          simp only [ref06_collect_l1, ref06_collect_s1]
          exact Ev.cf hc (Ev.pure _))
        (fun i x hx hd hc hgt hi hP => by
          refine Ev.loop ?_
          simp only [ref06_collect_l1, ref06_collect_s1, re_eq]
          have hm := List.mem_of_getElem? hx
          have h1 := kid_lt t x hm
          obtain ⟨f1, f2, f3, f4⟩ := accP_facts sg hsg (t.kids.take i) l hg
          have h5 := szL_take_succ hx
          have h6 : szL t.kids + 1 = size t := by unfold szL; omega
          have h7 : szL (t.kids.take i) * sg.natAbs + size x * sg.natAbs ≤ size t * n.natAbs := by
            rw [← Nat.add_mul, hab]
            exact Nat.mul_le_mul_right _ (by omega)
          refine Ev.ct hc (Ev.some hgt (Ev.bind (ih x hm (accP t.kids sg l i) sg hsg f1 (by unfold accP; omega) (by unfold accP; omega)) ?_))
          rw [hi]
          refine hP.congr fun m k => ?_
          rw [accP_succ hx])
      refine Ev.diag (L := fun m k => ref06_collect_L m (ref06_collect m) k sg 0 t.kind t.name t.sort t.kids l) ?_
      exact key 0 (Nat.zero_le _)
    have hneg : iw .i64 (isub 0 n) = -n := by
      unfold isub
      rw [iw_id (by omega)]; omega
    refine Ev.ite (fun hk => ?_) fun hk => ?_
    · rw [seq_t] at hk
      rw [hneg]
      exact loop (-n) (by omega) (by omega) (by unfold sgnP; rw [if_pos (show t.name = nInv from hk)])
    · rw [seq_f] at hk
      exact loop n hn rfl (by unfold sgnP; rw [if_neg (show ¬ t.name = nInv from hk)])
theorem rof_ev (t : T) (hs : size t ≤ 1000000000) : Ev (fun m _ => ref06_Of m t) (ofP t) := by
  refine Ev.succ ?_
  simp only [ref06_Of_e, ref06_Of_s0, re_eq]
  unfold ofP
  refine Ev.bind (rvalid_ev t hs) (Ev.ite (fun h => ?_) fun h => ?_)
  · rw [bnt, ieq_f] at h
    rw [if_pos h]; exact Ev.pure _
  · rw [bnf, ieq_t] at h
    have hz := validE_sz h
    rw [if_neg (by omega)]
    refine Ev.bind (rarity_ev t hs) (Ev.ite (fun h1 => ?_) fun h1 => ?_)
    · rw [bnt] at h1
      rw [if_pos h1]; exact Ev.pure _
    · rw [bnf] at h1
      rw [if_neg (by rw [h1]; decide)]
      refine Ev.bind (rcollect_ev t [] 1 (by decide) GoodP.nil (by show 0 + _ ≤ _; omega) (by show 0 + size t * 1 ≤ _; omega)) (Ev.ite (fun h2 => ?_) fun h2 => ?_)
      · rw [ilt_t] at h2
        have h2 : (200 : Int) < ((colP t [] 1).length : Int) := h2
        rw [if_pos (by omega)]; exact Ev.pure _
      · rw [ilt_f] at h2
        have h2 : ((colP t [] 1).length : Int) ≤ 200 := h2
        rw [if_neg (by omega)]; exact Ev.pure _
theorem rpval_ev (l : List Pw) (hs : szP l ≤ 1000000000) : Ev (fun m _ => ref06_Valid m l) (pvalE l) := by
  have hl := len_szP l
  refine Ev.succ ?_
  simp only [ref06_Valid_e, ref06_Valid_s0]
  unfold pvalE
  refine Ev.ite (fun h => ?_) fun h => ?_
  · rw [ilt_t] at h
    rw [if_pos (by omega)]; exact Ev.pure _
  rw [ilt_f] at h
  rw [if_neg (by omega)]
  have key := ev_list (P := fun i => Ev (fun m k => ref06_Valid_L m k l i) (pvL (prevT l i) (l.drop i))) l (by omega)
    (fun hc => by
      refine Ev.loop ?_
      simp only [ref06_Valid_l1, ref06_Valid_s1]
      refine Ev.cf hc (Ev.ret ?_)
      rw [List.drop_length]; rfl)
    (fun i x hx hd hc hg hi hP => by
      refine Ev.loop ?_
      simp only [ref06_Valid_l1, ref06_Valid_s1, re_eq]
      have h1 := mem_szP (List.mem_of_getElem? hx)
      rw [prevT_succ hx] at hP
      rw [hd, pvL]
      have hk := pvK_eq (prevT l i) x
      have bad : ∀ e : Int, pvK (prevT l i) x = e → e ≠ 0 → Ev (fun _ _ => some e) (thn (pvK (prevT l i) x) (pvL (some x.1) (l.drop (i + 1)))) := fun e he h0 => by
        rw [he]
        exact Ev.ret (by unfold thn; rw [if_neg h0])
      have good : pvK (prevT l i) x = 0 → Ev (fun m k => ref06_Valid_L m k l ((i + 1 : Nat) : Int)) (thn (pvK (prevT l i) x) (pvL (some x.1) (l.drop (i + 1)))) := fun he => by
        rw [he]
        exact hP.res (by unfold thn; rw [if_pos rfl])
      refine Ev.ct hc (Ev.some hg (Ev.bind (rvalid_ev x.1 (by omega)) (Ev.ite (fun hv => ?_) fun hv => ?_)))
      · rw [bnt, ieq_f] at hv
        exact bad _ (by rw [hk, if_pos hv]) hv
      rw [bnf, ieq_t] at hv
      rw [if_neg (by omega)] at hk
      refine Ev.some hg (Ev.bind (rsp_ev x.1) (Ev.ite (fun hv2 => ?_) fun hv2 => ?_))
      · exact bad 1 (by rw [hk, if_pos hv2]) (by decide)
      rw [if_neg (by rw [hv2]; decide)] at hk
      refine Ev.some hg (Ev.ite (fun hz => ?_) fun hz => ?_)
      · rw [ieq_t] at hz
        exact bad 7 (by rw [hk, if_pos (by omega)]) (by decide)
      rw [ieq_f] at hz
      refine Ev.some hg (Ev.ite (fun hz2 => ?_) fun hz2 => ?_)
      · rw [ilt_t] at hz2
        exact bad 7 (by rw [hk, if_pos (by omega)]) (by decide)
      rw [ilt_f] at hz2
      refine Ev.some hg (Ev.ite (fun hz3 => ?_) fun hz3 => ?_)
      · rw [ilt_t] at hz3
        exact bad 7 (by rw [hk, if_pos (by omega)]) (by decide)
      rw [ilt_f] at hz3
      rw [if_neg (by omega)] at hk
      rw [hi]
      refine Ev.ite (fun h0 => ?_) fun h0 => ?_
      · rw [ilt_t] at h0
        obtain ⟨j, rfl⟩ : ∃ j, i = j + 1 := ⟨i - 1, by omega⟩
        have hlt : j < l.length := by have := (List.getElem?_eq_some_iff.1 hx).1; omega
        obtain ⟨q, hq⟩ : ∃ q, l[j]? = some q := ⟨_, List.getElem?_eq_getElem hlt⟩
        have h2 := mem_szP (List.mem_of_getElem? hq)
        rw [prevT_succ hq] at hk bad good ⊢
        simp only at hk
        refine Ev.some (a := q) (by rw [show isub ((j + 1 : Nat) : Int) 1 = ((j : Nat) : Int) from by unfold isub; omega, iw_id (by omega), lget_nat, hq]) (Ev.some hg (Ev.bind (rcompare_ev q.1 (by omega) x.1 (by omega)) (Ev.ite (fun hc2 => ?_) fun hc2 => ?_)))
        · rw [ile_t] at hc2
          exact bad 5 (by rw [hk, if_pos hc2]) (by decide)
        · rw [ile_f] at hc2
          exact good (by rw [hk, if_neg (by omega)])
      · rw [ilt_f] at h0
        have : i = 0 := by omega
        subst this
        exact good (by rw [hk]; rfl))
  refine Ev.diag (L := fun m k => ref06_Valid_L m k l 0) ?_
  exact key 0 (Nat.zero_le _)
end Go.AmYtmodnblfcikjlaaGreat
namespace Go.AmYtmodnblfcikjlaaGreat
open Go Go.GxYtmodnblfcikjlaaGreat
theorem take9_step (A : List T) (x : T) (h : (A.take 9).length < 9) : A.take 9 ++ [x] = (A ++ [x]).take 9 := by
  rw [List.length_take] at h
  rw [List.take_of_length_le (by omega), List.take_of_length_le (by rw [List.length_append]; simp only [List.length_cons, List.length_nil]; omega)]
theorem take9_full (A B : List T) (h : ¬ (A.take 9).length < 9) : A.take 9 = (A ++ B).take 9 := by
  rw [List.length_take] at h
  rw [List.take_append_of_le_length (by omega)]
theorem roper_ev (l : List Pw) (hl : l.length ≤ 1000) (hn : ∀ p ∈ l, p.2.natAbs ≤ 1000) : Ev (fun m _ => ref06_operands m l) ((posL l ++ negL l).take 9) := by
  refine Ev.succ ?_
  simp only [ref06_operands_e, ref06_operands_s0]
  have l9 : ∀ A : List T, (A.take 9).length ≤ 9 := fun A => by rw [List.length_take]; omega
  have k3 := ev_list (P := fun i => Ev (fun m k => (ref06_operands_L m k).2.2.1 l i ((posL l ++ negL (l.take i)).take 9)) ((posL l ++ negL l).take 9)) l (by omega)
    (fun hc => by
      refine Ev.loop ?_
      simp only [ref06_operands_l3, ref06_operands_s3]
      refine Ev.cf hc ?_
      rw [List.take_length]; exact Ev.pure _)
    (fun i p hx hd hc hg hi hP => by
      refine Ev.loop ?_
      simp only [ref06_operands_l3, ref06_operands_s3]
      refine Ev.ct hc ?_
      have hnp := hn p (List.mem_of_getElem? hx)
      rw [take_succ_of hx, negL_app, negL_one, ← List.append_assoc] at hP
      generalize posL l ++ negL (l.take i) = A at *
      have hneg : iw .i64 (isub 0 p.2) = -p.2 := by unfold isub; rw [iw_id (by omega)]; omega
      have k4 := ev_count (P := fun j => Ev (fun m k => (ref06_operands_L m k).2.2.2 l i j ((A ++ List.replicate j (apT nInv [p.1])).take 9)) ((posL l ++ negL l).take 9)) (-p.2) (by omega)
        (by
          refine Ev.loop ?_
          simp only [ref06_operands_l4, ref06_operands_s4, re_eq]
          refine Ev.some hg (Ev.cf (by rw [hneg, ilt_f]; omega) ?_)
          rw [hi]
          exact hP)
        (fun j hj hji hPj => by
          refine Ev.loop ?_
          simp only [ref06_operands_l4, ref06_operands_s4, re_eq]
          rw [List.replicate_succ', ← List.append_assoc] at hPj
          have h9 := l9 (A ++ List.replicate j (apT nInv [p.1]))
          refine Ev.some hg (Ev.ct (by rw [hneg, ilt_t]; exact hj) (Ev.ite (fun h => ?_) fun h => ?_))
          · rw [ilt_t] at h
            refine Ev.some hg (Ev.bind (rapp_ev [105, 110, 118] [p.1] (by simp)) (Ev.ct (room_t (by omega) (by omega)) ?_))
            rw [hji]
            refine hPj.congr fun m k => ?_
            rw [← take9_step _ _ (by omega)]; rfl
          · rw [ilt_f] at h
            rw [hi]
            refine hP.congr fun m k => ?_
            obtain ⟨d, hd2⟩ : ∃ d, (-p.2).toNat = j + d := ⟨(-p.2).toNat - j, by omega⟩
            rw [hd2, ← List.replicate_append_replicate, ← List.append_assoc, ← take9_full (A ++ List.replicate j (apT nInv [p.1])) _ (by omega)])
      have := k4 0 (Nat.zero_le _)
      rw [List.replicate_zero, List.append_nil] at this
      exact this)
  have k1 := ev_list (P := fun i => Ev (fun m k => (ref06_operands_L m k).1 l i ((posL (l.take i)).take 9)) ((posL l ++ negL l).take 9)) l (by omega)
    (fun hc => by
      refine Ev.loop ?_
      simp only [ref06_operands_l1, ref06_operands_s1]
      refine Ev.cf hc ?_
      rw [List.take_length]
      have := k3 0 (Nat.zero_le _)
      rw [List.take_zero, show negL [] = [] from rfl, List.append_nil] at this
      exact this)
    (fun i p hx hd hc hg hi hP => by
      refine Ev.loop ?_
      simp only [ref06_operands_l1, ref06_operands_s1]
      refine Ev.ct hc ?_
      have hnp := hn p (List.mem_of_getElem? hx)
      rw [take_succ_of hx, posL_app, posL_one] at hP
      generalize posL (l.take i) = A at *
      have k2 := ev_count (P := fun j => Ev (fun m k => (ref06_operands_L m k).2.1 l i j ((A ++ List.replicate j p.1).take 9)) ((posL l ++ negL l).take 9)) p.2 (by omega)
        (by
          refine Ev.loop ?_
          simp only [ref06_operands_l2, ref06_operands_s2, re_eq]
          refine Ev.some hg (Ev.cf (by rw [ilt_f]; omega) ?_)
          rw [hi]
          exact hP)
        (fun j hj hji hPj => by
          refine Ev.loop ?_
          simp only [ref06_operands_l2, ref06_operands_s2, re_eq]
          rw [List.replicate_succ', ← List.append_assoc] at hPj
          have h9 := l9 (A ++ List.replicate j p.1)
          refine Ev.some hg (Ev.ct (by rw [ilt_t]; exact hj) (Ev.ite (fun h => ?_) fun h => ?_))
          · rw [ilt_t] at h
            refine Ev.some hg (Ev.ct (room_t (by omega) (by omega)) ?_)
            rw [hji]
            refine hPj.congr fun m k => ?_
            rw [← take9_step _ _ (by omega)]
          · rw [ilt_f] at h
            rw [hi]
            refine hP.congr fun m k => ?_
            obtain ⟨d, hd2⟩ : ∃ d, p.2.toNat = j + d := ⟨p.2.toNat - j, by omega⟩
            rw [hd2, ← List.replicate_append_replicate, ← List.append_assoc, ← take9_full (A ++ List.replicate j p.1) _ (by omega)])
      have := k2 0 (Nat.zero_le _)
      rw [List.replicate_zero, List.append_nil] at this
      exact this)
  refine Ev.diag (L := fun m k => (ref06_operands_L m k).1 l 0 []) ?_
  exact k1 0 (Nat.zero_le _)
theorem posL_sz (S : Nat) : ∀ l : List Pw, (∀ p ∈ l, size p.1 ≤ S) → (∀ x ∈ posL l, size x ≤ S) ∧ ∀ x ∈ negL l, size x ≤ 1 + S := by
  intro l h
  refine ⟨fun x hx => ?_, fun x hx => ?_⟩
  · unfold posL at hx
    obtain ⟨p, hp, hx⟩ := List.mem_flatMap.1 hx
    rw [List.eq_of_mem_replicate hx]; exact h p hp
  · unfold negL at hx
    obtain ⟨p, hp, hx⟩ := List.mem_flatMap.1 hx
    rw [List.eq_of_mem_replicate hx, size_inv]
    have := h p hp; omega
theorem szL_le (S : Nat) : ∀ l : List T, (∀ x ∈ l, size x ≤ S) → szL l ≤ l.length * S
  | [], _ => by simp [szL]
  | x :: l, h => by
    have h1 := szL_le S l fun q hq => h q (List.mem_cons_of_mem _ hq)
    have h2 := h x (List.mem_cons_self ..)
    rw [szL_cons, List.length_cons, Nat.add_mul]; omega
theorem rterm_ev (l : List Pw) (hs : szP l ≤ 1000000000) : Ev (fun m _ => ref06_Term m l) (termP l) := by
  refine Ev.succ ?_
  simp only [ref06_Term_e, ref06_Term_s0, re_eq]
  refine Ev.bind (rpval_ev l hs) (Ev.ite (fun h => ?_) fun h => ?_)
  · rw [bnt, ieq_f] at h
    unfold termP
    rw [if_pos h]; exact Ev.pure _
  rw [bnf, ieq_t] at h
  obtain ⟨_, hlen, hN, hV⟩ := pvalE_good h
  have hsz : ∀ p ∈ l, size p.1 ≤ 400 := fun p hp => validE_sz (hV p hp).1
  rw [termP_end h]
  obtain ⟨s1, s2⟩ := posL_sz 400 l hsz
  have hall : ∀ x ∈ posL l ++ negL l, size x ≤ 401 := fun x hx => by
    rcases List.mem_append.1 hx with hx | hx
    · have := s1 x hx; omega
    · exact s2 x hx
  refine Ev.bind (roper_ev l (by omega) hN) ?_
  generalize posL l ++ negL l = A at *
  unfold endP
  refine Ev.ite (fun h8 => ?_) fun h8 => ?_
  · rw [ilt_t, List.length_take] at h8
    rw [if_pos (by omega)]; exact Ev.pure _
  rw [ilt_f, List.length_take] at h8
  rw [if_neg (by omega), List.take_of_length_le (by omega)]
  have ho := szL_le 401 A hall
  have hoz := outP_sz A
  have hm : A.length * 401 ≤ 8 * 401 := Nat.mul_le_mul_right _ (by omega)
  have fin : ∀ u : T, u = outP A → Ev (fun m _ => obind (ref01_Valid m u) fun v => cond (bnot (ieq v 0)) (some (T.mk 0 [] 0 [], v)) (some (u, 0))) (if validE (outP A) ≠ 0 then (zT, validE (outP A)) else (outP A, 0)) := by
    intro u hu
    subst hu
    refine Ev.bind (rvalid_ev _ (by omega)) (Ev.ite (fun h => ?_) fun h => ?_)
    · rw [bnt, ieq_f] at h
      rw [if_pos h]; exact Ev.pure _
    · rw [bnf, ieq_t] at h
      rw [if_neg (by omega)]; exact Ev.pure _
  refine Ev.bind (rapp_ev [109, 117, 108] A (by omega)) (Ev.ite (fun h0 => ?_) fun h0 => ?_)
  · rw [ieq_t] at h0
    refine Ev.bind (rapp_ev [111, 110, 101] [] (by simp)) (Ev.cf (ieq_f.2 (by omega)) (fin _ (by unfold outP; rw [if_pos (by omega)]; rfl)))
  · rw [ieq_f] at h0
    refine Ev.ite (fun h1 => ?_) fun h1 => ?_
    · rw [ieq_t] at h1
      refine Ev.some (a := A.getD 0 zT) ?_ (fin _ (by unfold outP; rw [if_neg (by omega), if_pos (by omega)]))
      rw [lget_zero, List.getD_eq_getElem?_getD]
      cases A with
      | nil => simp at h1
      | cons x r => rfl
    · rw [ieq_f] at h1
      exact fin _ (by unfold outP; rw [if_neg (by omega), if_neg (by omega)]; rfl)
theorem rrange_ev (l : List Pw) (hl : l.length ≤ 1000000000) : Ev (fun m _ => ref06_inRange m l) (if farP l then 7 else if 200 < l.length then 3 else 0) := by
  refine Ev.succ ?_
  simp only [ref06_inRange_e, ref06_inRange_s0]
  have key := ev_list (P := fun i => Ev (fun m k => ref06_inRange_L m k l i) (if farP (l.drop i) then (7 : Int) else if 200 < l.length then 3 else 0)) l (by omega)
    (fun hc => by
      refine Ev.loop ?_
      simp only [ref06_inRange_l1, ref06_inRange_s1]
      rw [List.drop_length, if_neg (by decide)]
      refine Ev.cf hc (Ev.ite (fun h => ?_) fun h => ?_)
      · rw [ilt_t] at h
        rw [if_pos (by omega)]; exact Ev.pure _
      · rw [ilt_f] at h
        rw [if_neg (by omega)]; exact Ev.pure _)
    (fun i p hx hd hc hg hi hP => by
      refine Ev.loop ?_
      simp only [ref06_inRange_l1, ref06_inRange_s1]
      rw [hd, farP_cons]
      refine Ev.ct hc (Ev.some hg (Ev.ite (fun h => ?_) fun h => ?_))
      · rw [ilt_t] at h
        rw [decide_eq_true h, Bool.true_or, Bool.true_or, if_pos rfl]; exact Ev.pure _
      · rw [ilt_f] at h
        rw [decide_eq_false (show ¬ p.2 < -1000 by omega), Bool.false_or]
        refine Ev.some hg (Ev.ite (fun h2 => ?_) fun h2 => ?_)
        · rw [ilt_t] at h2
          rw [decide_eq_true h2, Bool.true_or, if_pos rfl]; exact Ev.pure _
        · rw [ilt_f] at h2
          rw [decide_eq_false (show ¬ 1000 < p.2 by omega), Bool.false_or, hi]
          exact hP)
  refine Ev.diag (L := fun m k => ref06_inRange_L m k l 0) ?_
  exact (key 0 (Nat.zero_le _)).res (by rw [List.drop_zero])
theorem rmul_ev (a b : List Pw) (ha : szP a ≤ 100000000) (hb : szP b ≤ 100000000) : Ev (fun m _ => ref06_Mul m a b) (mulP a b) := by
  have hl := len_szP b
  have hla := len_szP a
  refine Ev.succ ?_
  simp only [ref06_Mul_e, ref06_Mul_s0]
  rw [mulP_resPd]
  refine Ev.bind (rpval_ev a (by omega)) (Ev.ite (fun h => ?_) fun h => ?_)
  · rw [bnt, ieq_f] at h
    rw [if_pos h]; exact Ev.pure _
  rw [bnf, ieq_t] at h
  rw [if_neg (by omega)]
  refine Ev.bind (rpval_ev b (by omega)) (Ev.ite (fun h2 => ?_) fun h2 => ?_)
  · rw [bnt, ieq_f] at h2
    rw [if_pos h2]; exact Ev.pure _
  rw [bnf, ieq_t] at h2
  rw [if_neg (by omega)]
  have key := ev_list (P := fun i => Ev (fun m k => ref06_Mul_L m k b i (mulL a (b.take i))) (resPd (mulL a b))) b (by omega)
    (fun hc => by
      refine Ev.loop ?_
      simp only [ref06_Mul_l1, ref06_Mul_s1]
      rw [List.take_length]
      obtain ⟨_, b2, _, _⟩ := mul_bounds h h2 b.length
      rw [List.take_length] at b2
      refine Ev.cf hc (Ev.bind (rrange_ev _ (by omega)) ?_)
      unfold resPd
      by_cases hf : farP (mulL a b) = true
      · rw [if_pos hf, if_pos hf]
        exact Ev.ct rfl (Ev.pure _)
      · rw [if_neg hf, if_neg hf]
        by_cases h200 : 200 < (mulL a b).length
        · rw [if_pos h200, if_pos h200]
          exact Ev.ct rfl (Ev.pure _)
        · rw [if_neg h200, if_neg h200]
          exact Ev.cf rfl (Ev.pure _))
    (fun i p hx hd hc hg hi hP => by
      refine Ev.loop ?_
      simp only [ref06_Mul_l1, ref06_Mul_s1, re_eq]
      have hm := List.mem_of_getElem? hx
      obtain ⟨b1, b2, b3, b4⟩ := mul_bounds h h2 i
      obtain ⟨_, _, hn, hv⟩ := pvalE_good h2
      have hz := validE_sz (hv p hm).1
      have hnp := hn p hm
      refine Ev.ct hc (Ev.some hg (Ev.some hg (Ev.bind (radd_ev b1 p.1 p.2 (by omega) (by omega)) ?_)))
      rw [hi]
      refine hP.congr fun m k => ?_
      rw [take_succ_of hx, mulL_snoc])
  refine Ev.ct (room_t (by simp only [List.length_nil]; omega) (by omega)) ?_
  have main : Ev (fun m _ => ref06_Mul_L m m b 0 a) (resPd (mulL a b)) := Ev.diag (L := fun m k => ref06_Mul_L m k b 0 a) (key 0 (Nat.zero_le _))
  exact Ev.case (fun h => by rw [h] at main ⊢; exact main) fun x r h => by rw [h] at main ⊢; exact main
end Go.AmYtmodnblfcikjlaaGreat
namespace Go.AmYtmodnblfcikjlaaGreat
theorem awake_try (n : Nat) : law09_awake (n + 3000) = some true := by kernel_rfl
end Go.AmYtmodnblfcikjlaaGreat
namespace Go.AmYtmodnblfcikjlaaGreat
open Go Go.GxYtmodnblfcikjlaaGreat Go.Lib
theorem vthE_zero {t : T} (h : vthE t = 0) : validE t = 0 ∧ chkE t = 0 := by
  unfold vthE at h
  exact thn_zero h
theorem arity_of {t : T} (h : chkE t = 0) {n : List UInt8} (hn : isN t n = true) {a b c : Int} (hs : symOf n = (a, b, c)) : a ≤ (t.kids.length : Int) ∧ (t.kids.length : Int) ≤ b ∧ ∀ k ∈ t.kids, chkE k = 0 := by
  obtain ⟨h3, rfl⟩ := isN_t.1 hn
  obtain ⟨h1, h2⟩ := chkE_zero h3 h
  obtain ⟨_, g1, g2, _⟩ := chkK_len h3 h1
  rw [hs] at g1 g2
  exact ⟨g1, g2, h2⟩
theorem awake_ev : Ev (fun m _ => law09_awake m) true := ⟨3000, fun m k hm _ => by
  obtain ⟨n, rfl⟩ : ∃ n, m = n + 3000 := ⟨m - 3000, by omega⟩
  exact awake_try n⟩
theorem small_ev (l : List T) (hl : l.length < 2 ^ 62) (hf : ∀ t ∈ l, FitT t) : ∃ b, Ev (fun m _ => law09_small m l) b ∧ (b = true → l.length ≤ 4 ∧ ∀ t ∈ l, size t ≤ 120 ∧ depT t ≤ 30) := by
  have hfew := few_ev l hl hf 4 120 (by decide) (by decide)
  cases hb : decide (l.length ≤ 4) && fewL l 120 with
  | false =>
    refine ⟨false, ?_, fun h => by cases h⟩
    refine Ev.succ ?_
    simp only [law09_small_e, law09_small_s0]
    exact Ev.bind hfew (Ev.ct (by rw [hb]; rfl) (Ev.pure _))
  | true =>
    rw [Bool.and_eq_true, decide_eq_true_iff] at hb
    have hsz : ∀ t ∈ l, size t ≤ 120 := fun t ht => by have := few_size (by decide) hb.2 t ht; omega
    have key := ev_list (P := fun i => Ev (fun m k => law09_small_L m k l l.length i) ((l.drop i).all fun t => decide (depT t ≤ 30))) l hl
      (fun hc => by
        refine Ev.loop ?_
        simp only [law09_small_l1, law09_small_s1]
        refine Ev.cf hc ?_
        exact Ev.ret (by simp))
      (fun i x hx hd hc hg hi hP => by
        refine Ev.loop ?_
        simp only [law09_small_l1, law09_small_s1, re_eq]
        have hm := List.mem_of_getElem? hx
        have := hsz x hm
        refine Ev.ct hc (Ev.some hg (Ev.bind (rdepth_ev x (by omega)) ?_))
        rw [hd, List.all_cons, hi]
        refine Ev.ite (fun h => ?_) fun h => ?_
        · rw [ilt_t] at h; exact Ev.ret (by rw [decide_eq_false (by omega)]; rfl)
        · rw [ilt_f] at h; rw [decide_eq_true (by omega)]; exact hP)
    refine ⟨l.all fun t => decide (depT t ≤ 30), ?_, fun h => ⟨hb.1, fun t ht => ⟨hsz t ht, of_decide_eq_true (List.all_eq_true.1 h t ht)⟩⟩⟩
    refine Ev.succ ?_
    simp only [law09_small_e, law09_small_s0]
    refine Ev.bind hfew (Ev.cf (by rw [hb.2, decide_eq_true hb.1]; rfl) ?_)
    exact Ev.diag (L := fun m k => law09_small_L m k l l.length 0) ((key 0 (Nat.zero_le _)).res (by rw [List.drop_zero]))
end Go.AmYtmodnblfcikjlaaGreat
namespace Go.AmYtmodnblfcikjlaaGreat
open Go Go.GxYtmodnblfcikjlaaGreat
/-- It goes down to kids. -/
def Cl (P : T → Prop) : Prop := ∀ t : T, t.kind = 3 → P t → ∀ k ∈ t.kids, P k
theorem plusX_sub : ∀ (n : Nat) (a b : List T), a.length + b.length ≤ n → ∀ x ∈ plusX a b, x ∈ a ∨ x ∈ b
  | _, [], b, _, x, h => by rw [plusX] at h; exact .inr h
  | _, z :: a, [], _, x, h => by rw [plusX] at h; exact .inl h
  | 0, z :: a, y :: b, hn, x, h => by simp at hn
  | n + 1, z :: a, y :: b, hn, x, h => by
    simp only [List.length_cons] at hn
    rw [plusX] at h
    split at h
    · rcases List.mem_cons.1 h with rfl | h
      · exact .inl (List.mem_cons_self ..)
      · rcases plusX_sub n a (y :: b) (by simp; omega) x h with h | h
        · exact .inl (List.mem_cons_of_mem _ h)
        · exact .inr h
    · split at h
      · rcases List.mem_cons.1 h with rfl | h
        · exact .inr (List.mem_cons_self ..)
        · rcases plusX_sub n (z :: a) b (by simp; omega) x h with h | h
          · exact .inl h
          · exact .inr (List.mem_cons_of_mem _ h)
      · rcases plusX_sub n a b (by omega) x h with h | h
        · exact .inl (List.mem_cons_of_mem _ h)
        · exact .inr (List.mem_cons_of_mem _ h)
theorem foldPlus_sub : ∀ (ls : List (List T)) (a : List T), ∀ x ∈ ls.foldl plusX a, x ∈ a ∨ ∃ l ∈ ls, x ∈ l
  | [], a, x, h => .inl h
  | l :: ls, a, x, h => by
    rcases foldPlus_sub ls (plusX a l) x h with h | ⟨m, hm, h⟩
    · rcases plusX_sub _ a l (Nat.le_refl _) x h with h | h
      · exact .inl h
      · exact .inr ⟨l, List.mem_cons_self .., h⟩
    · exact .inr ⟨m, List.mem_cons_of_mem _ hm, h⟩
theorem sumsX_cl {P : T → Prop} (hP : Cl P) (t : T) : P t → ∀ x ∈ sumsX t, P x := by
  refine T.ind (P := fun t => P t → ∀ x ∈ sumsX t, P x) ?_ t
  intro t ih ht x hx
  rw [sumsX_eq] at hx
  split at hx
  · cases hx
  · split at hx
    · rename_i hn
      rcases foldPlus_sub _ _ x hx with h | ⟨l, hl, h⟩
      · cases h
      · obtain ⟨k, hk, rfl⟩ := List.mem_map.1 hl
        exact ih k hk (hP t (isN_t.1 hn).1 ht k hk) x h
    · rw [List.mem_singleton.1 hx]; exact ht
theorem partsX_cl {P : T → Prop} (hP : Cl P) {l : List T} (h : ∀ k ∈ l, P k) : ∀ x ∈ partsX l, P x := by
  intro x hx
  rcases foldPlus_sub _ _ x hx with h1 | ⟨m, hm, h1⟩
  · cases h1
  · obtain ⟨k, hk, rfl⟩ := List.mem_map.1 hm
    exact sumsX_cl hP k (h k hk) x h1
theorem insP_cl {P : T → Prop} {l : List Pw} {t : T} (n : Int) (ht : P t) (hl : ∀ p ∈ l, P p.1) : ∀ p ∈ insP l t n, P p.1 := by
  intro p hp
  rcases insP_mem l t n p hp with h | h
  · rw [h]; exact ht
  · exact hl p h
theorem colP_cl {P : T → Prop} (hP : Cl P) (t : T) : P t → ∀ (l : List Pw) (n : Int), (∀ p ∈ l, P p.1) → ∀ p ∈ colP t l n, P p.1 := by
  refine T.ind (P := fun t => P t → ∀ (l : List Pw) (n : Int), (∀ p ∈ l, P p.1) → ∀ p ∈ colP t l n, P p.1) ?_ t
  intro t ih ht l n hl
  rw [colP_eq]
  split
  · rename_i hs
    have h3 := (specT_t.1 hs).1
    exact foldCol t.kids (sgnP t n) (fun l => ∀ p ∈ l, P p.1) (fun k hk l hl => ih k hk (hP t h3 ht k hk) l _ hl) l hl
  · exact insP_cl n ht hl
theorem ofP_cl {P : T → Prop} (hP : Cl P) {t : T} (ht : P t) : ∀ p ∈ (ofP t).1, P p.1 := by
  intro p hp
  unfold ofP at hp
  split at hp
  · cases hp
  · split at hp
    · cases hp
    · split at hp
      · cases hp
      · exact colP_cl hP t ht [] 1 (fun _ h => by cases h) p hp
theorem mulP_cl {P : T → Prop} {a b : List Pw} (ha : ∀ p ∈ a, P p.1) (hb : ∀ p ∈ b, P p.1) : ∀ p ∈ (mulP a b).1, P p.1 := by
  intro p hp
  unfold mulP at hp
  split at hp
  · cases hp
  · split at hp
    · cases hp
    · split at hp
      · cases hp
      · split at hp
        · cases hp
        · rcases mulL_mem b a p hp with ⟨q, hq, e⟩ | ⟨q, hq, e⟩
          · rw [← e]; exact ha q hq
          · rw [← e]; exact hb q hq
theorem posL_mem {l : List Pw} {x : T} (h : x ∈ posL l) : ∃ p ∈ l, x = p.1 := by
  unfold posL at h
  obtain ⟨p, hp, h⟩ := List.mem_flatMap.1 h
  exact ⟨p, hp, List.eq_of_mem_replicate h⟩
theorem negL_mem {l : List Pw} {x : T} (h : x ∈ negL l) : ∃ p ∈ l, x = apT nInv [p.1] := by
  unfold negL at h
  obtain ⟨p, hp, h⟩ := List.mem_flatMap.1 h
  exact ⟨p, hp, List.eq_of_mem_replicate h⟩
theorem chk_cl : Cl fun t => chkE t = 0 := fun t h3 h => (chkE_zero h3 h).2
theorem foldThn_none : ∀ (l : List Int), (∀ y ∈ l, y = 0) → l.foldl thn 0 = 0
  | [], _ => rfl
  | z :: l, h => by
    rw [foldl_thn_zero, h z (List.mem_cons_self ..)]
    exact foldThn_none l fun y hy => h y (List.mem_cons_of_mem _ hy)
theorem chk_of {t : T} (h : chkK t = 0) (hk : ∀ k ∈ t.kids, chkE k = 0) : chkE t = 0 := by
  rw [chkE_eq]
  split
  · rfl
  · rw [h]
    refine foldThn_none _ fun y hy => ?_
    obtain ⟨k, hk', rfl⟩ := List.mem_map.1 hy
    exact hk k hk'
theorem chkK_app {n : List UInt8} {ks : List T} (h1 : (symOf n).2.2 ≠ 0) (h2 : (symOf n).1 ≤ (ks.length : Int)) (h3 : (ks.length : Int) ≤ (symOf n).2.1) (h4 : privB (apT n ks) = false) : chkK (apT n ks) = 0 := by
  unfold chkK
  show (if (3 : Int) ≠ 3 then (0 : Int) else if (symOf n).2.2 = 0 then 10 else if (ks.length : Int) < (symOf n).1 ∨ (symOf n).2.1 < (ks.length : Int) then 6 else if privB (apT n ks) then 10 else 0) = 0
  rw [if_neg (by decide), if_neg h1, if_neg (by omega), h4]; rfl
theorem priv_no {n : List UInt8} (h1 : n ≠ nNew) (h2 : n ≠ nSk) (h3 : n ≠ nShk) (ks : List T) : privB (apT n ks) = false := by
  unfold privB
  rw [if_neg (show ¬ (apT n ks).name = nNew from h1), if_neg (show ¬ ((apT n ks).name = nSk ∨ (apT n ks).name = nShk) from fun h => h.elim h2 h3)]
theorem chk_zT : chkE zT = 0 := by rw [chkE_eq]; rfl
theorem kid_cl {P : T → Prop} (hP : Cl P) (hz : P zT) {t : T} (h3 : t.kind = 3) (ht : P t) (i : Nat) : P (kid t i) := by
  by_cases h : i < t.kids.length
  · exact hP t h3 ht _ (kid_mem h)
  · unfold kid
    rw [List.getD_eq_getElem?_getD, List.getElem?_eq_none (by omega)]; exact hz
theorem getD_cl {P : T → Prop} (hz : P zT) {l : List T} (h : ∀ x ∈ l, P x) : P (l.getD 0 zT) := by
  cases l with
  | nil => exact hz
  | cons x r => exact h x (List.mem_cons_self ..)
theorem valid_len {t : T} (h3 : t.kind = 3) (h : validE t = 0) : t.kids.length ≤ 8 := by
  unfold validE at h
  split at h
  · rename_i h1; exact absurd h h1
  · rename_i h1
    have h2 := (nodesE_zero (t := t) (by omega)).1
    unfold nodeE nodeK at h2
    rw [if_neg (by omega), if_pos h3] at h2
    split at h2
    · cases h2
    · split at h2
      · split at h2
        · cases h2
        · omega
      · cases h2
theorem termP_chk {l : List Pw} (hl : ∀ p ∈ l, chkE p.1 = 0) (h : (termP l).2 = 0) : chkE (termP l).1 = 0 := by
  by_cases hp : pvalE l = 0
  · rw [termP_end hp] at h ⊢
    unfold endP at h ⊢
    by_cases h8 : 8 < (posL l ++ negL l).length
    · rw [if_pos h8] at h; cases h
    rw [if_neg h8] at h ⊢
    by_cases hv : validE (outP (posL l ++ negL l)) = 0
    · rw [if_neg (by omega)]
      have hall : ∀ x ∈ posL l ++ negL l, chkE x = 0 := fun x hx => by
        rcases List.mem_append.1 hx with hx | hx
        · obtain ⟨p, hp, rfl⟩ := posL_mem hx
          exact hl p hp
        · obtain ⟨p, hp, rfl⟩ := negL_mem hx
          exact chk_of (chkK_app (by decide) (by show (1 : Int) ≤ 1; decide) (by show (1 : Int) ≤ 1; decide) (priv_no (by decide) (by decide) (by decide) _)) fun k hk => by rw [List.mem_singleton.1 hk]; exact hl p hp
      generalize posL l ++ negL l = o at *
      unfold outP
      split
      · exact chk_of (chkK_app (by decide) (by show (0 : Int) ≤ 0; decide) (by show (0 : Int) ≤ 0; decide) (priv_no (by decide) (by decide) (by decide) _)) fun k hk => by cases hk
      · split
        · exact getD_cl (P := fun t => chkE t = 0) chk_zT hall
        · rename_i h0 h1
          exact chk_of (chkK_app (by decide) (by show (2 : Int) ≤ _; omega) (by show _ ≤ (8 : Int); omega) (priv_no (by decide) (by decide) (by decide) _)) hall
    · rw [if_pos hv] at h; exact absurd h hv
  · unfold termP at h
    rw [if_pos hp] at h
    exact absurd h hp
theorem expT_chk {b : T} {l : List Pw} (hb : chkE b = 0) (hl : ∀ p ∈ l, chkE p.1 = 0) (h : (expT b l).2 = 0) : chkE (expT b l).1 = 0 := by
  unfold expT at h ⊢
  split at h
  · rename_i h0; rw [if_pos h0]; exact hb
  · rename_i h0
    rw [if_neg h0]
    split at h
    · rename_i h1; exact absurd h h1
    · rename_i h1
      rw [if_neg h1]
      refine chk_of (chkK_app (by decide) (by show (2 : Int) ≤ 2; decide) (by show (2 : Int) ≤ 2; decide) (priv_no (by decide) (by decide) (by decide) _)) fun k hk => ?_
      rcases List.mem_cons.1 hk with rfl | hk
      · exact hb
      · rw [List.mem_singleton.1 hk]; exact termP_chk hl (by omega)
theorem finN_chk {n : List UInt8} {ks : List T} (hks : ∀ k ∈ ks, chkE k = 0) (hK : chkK (apT n ks) = 0) (h0 : (finN (apT n ks)).2 = 0) : chkE (finN (apT n ks)).1 = 0 := by
  have ht : chkE (apT n ks) = 0 := chk_of hK hks
  unfold finN at h0 ⊢
  by_cases hd : isD (apT n ks).name = true
  · rw [if_pos hd]
    show chkE (desT _) = 0
    unfold desT
    split
    · rename_i hf
      have hk0 : (kid (apT n ks) 0).kind = 3 := by
        unfold fitsD at hf
        split at hf
        · exact (isN_t.1 hf).1
        · split at hf
          · rw [Bool.and_eq_true] at hf; exact (isN_t.1 hf.1).1
          · split at hf
            · rw [Bool.and_eq_true, Bool.and_eq_true] at hf; exact (isN_t.1 hf.1.1).1
            · split at hf
              · rw [Bool.and_eq_true, Bool.and_eq_true] at hf; exact (isN_t.1 hf.1.1).1
              · split at hf
                · exact (isN_t.1 hf).1
                · cases hf
      exact kid_cl chk_cl chk_zT hk0 (kid_cl chk_cl chk_zT rfl ht 0) _
    · exact ht
  rw [if_neg hd] at h0 ⊢
  by_cases hx : (apT n ks).name = nXor
  · rw [if_pos hx] at h0 ⊢
    unfold sumX at h0 ⊢
    split at h0
    · rename_i h1; exact absurd h0 h1
    rename_i h1
    rw [if_neg h1]
    split at h0
    · cases h0
    rename_i h2
    rw [if_neg h2]
    show chkE (outX (partsX ks)) = 0
    have hv : validE (outX (partsX ks)) = 0 := by
      have : ¬ validE (outX (partsX (apT n ks).kids)) ≠ 0 := h2
      exact Decidable.of_not_not this
    have hall := partsX_cl chk_cl hks
    generalize partsX ks = o at *
    unfold outX at hv ⊢
    split
    · exact chk_of (chkK_app (by decide) (by show (0 : Int) ≤ 0; decide) (by show (0 : Int) ≤ 0; decide) (priv_no (by decide) (by decide) (by decide) _)) fun k hk => by cases hk
    · rename_i g0
      split
      · exact getD_cl (P := fun t => chkE t = 0) chk_zT hall
      · rename_i g1
        rw [if_neg g0, if_neg g1] at hv
        have hl8 : o.length ≤ 8 := valid_len (t := apT nXor o) rfl hv
        exact chk_of (chkK_app (by decide) (by show (2 : Int) ≤ _; omega) (by show _ ≤ (8 : Int); omega) (priv_no (by decide) (by decide) (by decide) _)) hall
  rw [if_neg hx] at h0 ⊢
  by_cases hm : (apT n ks).name = nMul ∨ (apT n ks).name = nInv ∨ (apT n ks).name = nOne
  · rw [if_pos hm] at h0 ⊢
    unfold prodT at h0 ⊢
    split at h0
    · rename_i h1; exact absurd h0 h1
    rename_i h1
    rw [if_neg h1]
    exact termP_chk (ofP_cl chk_cl ht) h0
  rw [if_neg hm] at h0 ⊢
  by_cases he : (apT n ks).name = nExp
  · rw [if_pos he] at h0 ⊢
    have hb := kid_cl chk_cl chk_zT (t := apT n ks) rfl ht 0
    have hy := kid_cl chk_cl chk_zT (t := apT n ks) rfl ht 1
    generalize kid (apT n ks) 0 = b at *
    generalize kid (apT n ks) 1 = y at *
    unfold raiT at h0 ⊢
    split at h0
    · rename_i h1; exact absurd h0 h1
    rename_i h1
    rw [if_neg h1]
    split at h0
    · rename_i hbe
      rw [if_pos hbe]
      split at h0
      · rename_i h2; exact absurd h0 h2
      rename_i h2
      rw [if_neg h2]
      split at h0
      · rename_i h3; exact absurd h0 h3
      rename_i h3
      rw [if_neg h3]
      have hb3 := (isN_t.1 hbe).1
      exact expT_chk (kid_cl chk_cl chk_zT hb3 hb 0) (mulP_cl (P := fun t => chkE t = 0) (ofP_cl chk_cl (kid_cl chk_cl chk_zT hb3 hb 1)) (ofP_cl chk_cl hy)) h0
    · rename_i hbe
      rw [if_neg hbe]
      exact expT_chk hb (ofP_cl chk_cl hy) h0
  · rw [if_neg he]; exact ht
/-- Sizes. -/
theorem size_zT : size zT = 1 := by rw [size_eq]; rfl
theorem kid_sz (t : T) (i : Nat) : size (kid t i) ≤ size t := by
  have := size_pos t
  by_cases h : i < t.kids.length
  · have := kid_lt t _ (kid_mem h); omega
  · unfold kid
    rw [List.getD_eq_getElem?_getD, List.getElem?_eq_none (by omega)]
    show size zT ≤ _
    rw [size_zT]; omega
theorem termP_sz (l : List Pw) : size (termP l).1 ≤ 400 := by
  unfold termP
  have := size_zT
  split
  · show size zT ≤ _; omega
  · split
    · show size zT ≤ _; omega
    · split
      · show size zT ≤ _; omega
      · rename_i h
        exact validE_sz (Decidable.of_not_not h)
theorem expT_sz (b : T) (l : List Pw) : size (expT b l).1 ≤ 401 + size b := by
  unfold expT
  have := size_zT
  have := termP_sz l
  split
  · show size b ≤ _; omega
  · split
    · show size zT ≤ _; omega
    · rw [size_eq]; show 1 + (size b + (size (termP l).1 + 0)) ≤ _; omega
theorem finN_sz (n : List UInt8) (ks : List T) : size (finN (apT n ks)).1 ≤ 402 + szL ks := by
  have hz := size_zT
  have ht : size (apT n ks) = 1 + szL ks := size_eq _
  unfold finN
  split
  · show size (desT _) ≤ _
    unfold desT
    split
    · have h1 := kid_sz (apT n ks) 0
      have h2 := kid_sz (kid (apT n ks) 0) (if (apT n ks).name = nSnd then 1 else 0)
      omega
    · omega
  · split
    · unfold sumX
      split
      · show size zT ≤ _; omega
      · split
        · show size zT ≤ _; omega
        · have h1 := outX_sz (partsX (apT n ks).kids)
          have h2 := partsX_sz (apT n ks).kids
          have h3 : szL (apT n ks).kids = szL ks := rfl
          show size (outX _) ≤ _
          omega
    · split
      · unfold prodT
        split
        · show size zT ≤ _; omega
        · have := termP_sz (ofP (apT n ks)).1; omega
      · split
        · have h0 := kid_sz (apT n ks) 0
          generalize kid (apT n ks) 0 = b at *
          generalize kid (apT n ks) 1 = y at *
          unfold raiT
          split
          · show size zT ≤ _; omega
          · split
            · split
              · show size zT ≤ _; omega
              · split
                · show size zT ≤ _; omega
                · have h1 := expT_sz (kid b 0) (mulP (ofP (kid b 1)).1 (ofP y).1).1
                  have h2 := kid_sz b 0
                  omega
            · have h1 := expT_sz b (ofP y).1
              omega
        · show size (apT n ks) ≤ _; omega
theorem norT_sz (t : T) : size (norT t).1 ≤ 402 * size t := by
  refine T.ind (P := fun t => size (norT t).1 ≤ 402 * size t) ?_ t
  intro t ih
  have hz := size_zT
  have hp := size_pos t
  rw [norT_eq]
  split
  · show size t ≤ _; omega
  · split
    · show size zT ≤ _; omega
    · have h1 := finN_sz t.name ((t.kids.map norT).map (·.1))
      have h2 : szL ((t.kids.map norT).map (·.1)) ≤ 402 * szL t.kids := by
        have : ∀ l : List T, (∀ k ∈ l, k ∈ t.kids) → szL ((l.map norT).map (·.1)) ≤ 402 * szL l := by
          intro l
          induction l with
          | nil => intro _; exact Nat.le_refl _
          | cons k l ihl =>
            intro h
            have h1 := ih k (h k (List.mem_cons_self ..))
            have h2 := ihl fun x hx => h x (List.mem_cons_of_mem _ hx)
            rw [List.map_cons, List.map_cons, szL_cons, szL_cons]; omega
        exact this t.kids fun _ h => h
      have h3 : size t = 1 + szL t.kids := size_eq t
      omega
theorem foldThn_all : ∀ (l : List Int), l.foldl thn 0 = 0 → ∀ y ∈ l, y = 0
  | [], _, y, hy => by cases hy
  | z :: l, h, y, hy => by
    rw [foldl_thn_zero] at h
    by_cases hz : z = 0
    · subst hz
      rcases List.mem_cons.1 hy with rfl | hy
      · rfl
      · exact foldThn_all l h y hy
    · rw [foldl_thn_ne _ hz] at h; exact absurd h hz
theorem norT_leaf {t : T} (h : t.kind ≠ 3) : norT t = (t, 0) := by rw [norT_eq, if_pos h]
theorem norT_app {t : T} (h3 : t.kind = 3) (h : (norT t).2 = 0) : (∀ k ∈ t.kids, (norT k).2 = 0) ∧ norT t = finN (apT t.name ((t.kids.map norT).map (·.1))) := by
  rw [norT_eq, if_neg (fun hh => hh h3)] at h ⊢
  split at h
  · rename_i h1; exact absurd h h1
  · rename_i h1
    rw [if_neg h1]
    refine ⟨fun k hk => ?_, rfl⟩
    exact foldThn_all _ (Decidable.of_not_not h1) _ (List.mem_map.2 ⟨_, List.mem_map.2 ⟨k, hk, rfl⟩, rfl⟩)
theorem nor_kids (l : List T) (h : ∀ k ∈ l, k.kind ≠ 3) : (l.map norT).map (·.1) = l := by
  induction l with
  | nil => rfl
  | cons k l ih =>
    rw [List.map_cons, List.map_cons, norT_leaf (h k (List.mem_cons_self ..)), ih fun x hx => h x (List.mem_cons_of_mem _ hx)]
theorem chkK_nor {t : T} (h3 : t.kind = 3) (h : chkK t = 0) : chkK (apT t.name ((t.kids.map norT).map (·.1))) = 0 := by
  obtain ⟨h1, h2, h4, h5⟩ := chkK_len h3 h
  refine chkK_app h1 (by simpa using h2) (by simpa using h4) ?_
  unfold privB at h5 ⊢
  show (if t.name = nNew then decide ((kid (apT t.name ((t.kids.map norT).map (·.1))) 0).kind ≠ 2) else if t.name = nSk ∨ t.name = nShk then ((t.kids.map norT).map (·.1)).any fun k => decide (k.kind = 3) || decide (k.sort ≠ 1) else false) = false
  split
  · rename_i hn
    rw [if_pos hn] at h5
    have hk : (kid t 0).kind = 2 := by simpa using h5
    cases hl : t.kids with
    | nil =>
      unfold kid at hk
      rw [hl] at hk
      exact absurd hk (by decide)
    | cons x r =>
      have hx : kid t 0 = x := by unfold kid; rw [hl]; rfl
      rw [hx] at hk
      show decide ((norT x).1.kind ≠ 2) = false
      rw [norT_leaf (by omega)]
      simpa using hk
  · rename_i hn
    rw [if_neg hn] at h5
    split
    · rename_i hs
      rw [if_pos hs] at h5
      rw [nor_kids t.kids fun k hk hk3 => ?_]
      · exact h5
      · have := List.any_eq_false.1 h5 k hk
        rw [hk3] at this
        exact this rfl
    · rfl
theorem norT_chk (t : T) : chkE t = 0 → (norT t).2 = 0 → chkE (norT t).1 = 0 := by
  refine T.ind (P := fun t => chkE t = 0 → (norT t).2 = 0 → chkE (norT t).1 = 0) ?_ t
  intro t ih hc h0
  by_cases h3 : t.kind = 3
  · obtain ⟨h1, h2⟩ := norT_app h3 h0
    obtain ⟨g1, g2⟩ := chkE_zero h3 hc
    rw [h2] at h0 ⊢
    refine finN_chk (fun k hk => ?_) (chkK_nor h3 g1) h0
    obtain ⟨q, hq, rfl⟩ := List.mem_map.1 hk
    obtain ⟨j, hj, rfl⟩ := List.mem_map.1 hq
    exact ih j hj (g2 j hj) (h1 j hj)
  · rw [norT_leaf h3]; exact hc
end Go.AmYtmodnblfcikjlaaGreat
namespace Go.AmYtmodnblfcikjlaaGreat
open Go Go.GxYtmodnblfcikjlaaGreat
theorem desT_eq (t : T) {b : Bool} (h : fitsD t = b) : desT t = if b then kid (kid t 0) (if t.name = nSnd then 1 else 0) else t := by unfold desT; rw [h]
/-- Kids that are there. -/
theorem kid_of {t : T} (h : chkE t = 0) {n : List UInt8} (hn : isN t n = true) {a b c : Int} (hs : symOf n = (a, b, c)) {i : Nat} (hi : (i : Int) < a) : lget t.kids (i : Int) = some (kid t i) := by
  have := (arity_of h hn hs).1
  exact kid_get (by omega)
theorem destroy_ev (t : T) (h3 : t.kind = 3) (hc : chkE t = 0) (hD : isD t.name = true) (hs : size t ≤ 1000000000) : Ev (fun m _ => theory_destroy m t) (desT t) := by
  have hz : ∀ i, size (kid t i) ≤ size t := kid_sz t
  have hzz : ∀ i j, size (kid (kid t i) j) ≤ 1000000000 := fun i j => by have := kid_sz (kid t i) j; have := hz i; omega
  have hzzz : ∀ i j k, size (kid (kid (kid t i) j) k) ≤ 1000000000 := fun i j k => by have := kid_sz (kid (kid t i) j) k; have := hzz i j; omega
  have hck : ∀ i, chkE (kid t i) = 0 := fun i => kid_cl chk_cl chk_zT h3 hc i
  have hckk : ∀ i j, (kid t i).kind = 3 → chkE (kid (kid t i) j) = 0 := fun i j h => kid_cl chk_cl chk_zT h (hck i) j
  have isT : isN t t.name = true := isN_t.2 ⟨h3, rfl⟩
  have k0 : ∀ {u : T} {n : List UInt8}, chkE u = 0 → isN u n = true → ∀ {b c : Int}, symOf n = (1, b, c) → lget u.kids 0 = some (kid u 0) := fun h hn _ _ e => kid_of (i := 0) h hn e (by decide)
  have k20 : ∀ {u : T} {n : List UInt8}, chkE u = 0 → isN u n = true → ∀ {b c : Int}, symOf n = (2, b, c) → lget u.kids 0 = some (kid u 0) := fun h hn _ _ e => kid_of (i := 0) h hn e (by decide)
  have k21 : ∀ {u : T} {n : List UInt8}, chkE u = 0 → isN u n = true → ∀ {b c : Int}, symOf n = (2, b, c) → lget u.kids 1 = some (kid u 1) := fun h hn _ _ e => kid_of (i := 1) h hn e (by decide)
  have sP : symOf nPair = (2, 2, 1) := by decide
  have sE : symOf nEnc = (2, 2, 1) := by decide
  have sA : symOf nAenc = (2, 2, 1) := by decide
  have sK : symOf nPk = (1, 1, 1) := by decide
  have sS : symOf nSign = (2, 2, 1) := by decide
  unfold isD at hD
  simp only [Bool.or_eq_true, beq_iff_eq] at hD
  refine Ev.succ ?_
  simp only [theory_destroy_e, theory_destroy_s0, re_eq]
  have one : ∀ {a b c : Int}, symOf t.name = (a, b, c) → a = b → (t.kids.length : Int) = a := fun e hab => by
    have := arity_of hc isT e; omega
  rcases hD with ((((hn | hn) | hn) | hn) | hn) | hn
  · have hl := one (a := 1) (b := 1) (c := 3) (by rw [hn]; decide) rfl
    refine Ev.some (kid_0 (by omega)) (Ev.cf (ilt_f.2 (by omega)) (Ev.ct (by rw [hn]; rfl) (Ev.bind (is_ev _ _) ?_)))
    have hf : fitsD t = isN (kid t 0) nPair := by unfold fitsD; rw [if_pos (.inl hn)]
    refine Ev.ite (fun h => ?_) fun h => ?_
    · refine Ev.some (k20 (hck 0) h sP) (Ev.ret ?_)
      rw [desT_eq t (hf.trans h), if_pos rfl, if_neg (by rw [hn]; decide)]
    · refine Ev.ret ?_
      rw [desT_eq t (hf.trans h), if_neg (by decide)]
  · have hl := one (a := 1) (b := 1) (c := 3) (by rw [hn]; decide) rfl
    refine Ev.some (kid_0 (by omega)) (Ev.cf (ilt_f.2 (by omega)) (Ev.cf (by rw [hn]; rfl) (Ev.ct (by rw [hn]; rfl) (Ev.bind (is_ev _ _) ?_))))
    have hf : fitsD t = isN (kid t 0) nPair := by unfold fitsD; rw [if_pos (.inr hn)]
    refine Ev.ite (fun h => ?_) fun h => ?_
    · refine Ev.some (k21 (hck 0) h sP) (Ev.ret ?_)
      rw [desT_eq t (hf.trans h), if_pos rfl, if_pos hn]
    · refine Ev.ret ?_
      rw [desT_eq t (hf.trans h), if_neg (by decide)]
  · have hl := one (a := 2) (b := 2) (c := 3) (by rw [hn]; decide) rfl
    refine Ev.some (kid_0 (by omega)) (Ev.ct (ilt_t.2 (by omega)) (Ev.some (kid_1 (by omega)) (Ev.cf (by rw [hn]; rfl) (Ev.cf (by rw [hn]; rfl) (Ev.ct (by rw [hn]; rfl) (Ev.bind (is_ev _ _) ?_))))))
    have hf : fitsD t = (isN (kid t 0) nEnc && sameT (kid (kid t 0) 1) (kid t 1)) := by unfold fitsD; rw [if_neg (by rw [hn]; decide), if_pos hn]
    refine Ev.ite (fun h => ?_) fun h => ?_
    · refine Ev.some (k21 (hck 0) h sE) (Ev.bind (tsame_ev _ _ (hzz 0 1) (by have := hz 1; omega)) (Ev.ite (fun h2 => ?_) fun h2 => ?_))
      · refine Ev.some (k20 (hck 0) h sE) (Ev.ret ?_)
        rw [desT_eq t (b := true) (by rw [hf, show isN (kid t 0) nEnc = true from h, h2]; rfl), if_pos rfl, if_neg (by rw [hn]; decide)]
      · refine Ev.ret ?_
        rw [desT_eq t (b := false) (by rw [hf, h2, Bool.and_false]), if_neg (by decide)]
    · refine Ev.ret ?_
      rw [desT_eq t (b := false) (by rw [hf, show isN (kid t 0) nEnc = false from h]; rfl), if_neg (by decide)]
  · have hl := one (a := 2) (b := 2) (c := 3) (by rw [hn]; decide) rfl
    refine Ev.some (kid_0 (by omega)) (Ev.ct (ilt_t.2 (by omega)) (Ev.some (kid_1 (by omega)) (Ev.cf (by rw [hn]; rfl) (Ev.cf (by rw [hn]; rfl) (Ev.cf (by rw [hn]; rfl) (Ev.ct (by rw [hn]; rfl) (Ev.bind (is_ev _ _) ?_)))))))
    have hf : fitsD t = (isN (kid t 0) nAenc && isN (kid (kid t 0) 1) nPk && sameT (kid (kid (kid t 0) 1) 0) (kid t 1)) := by unfold fitsD; rw [if_neg (by rw [hn]; decide), if_neg (by rw [hn]; decide), if_pos hn]
    refine Ev.ite (fun h => ?_) fun h => ?_
    · have hk3 := (isN_t.1 h).1
      refine Ev.some (k21 (hck 0) h sA) (Ev.bind (is_ev _ _) (Ev.ite (fun h2 => ?_) fun h2 => ?_))
      · refine Ev.some (k21 (hck 0) h sA) (Ev.some (k0 (hckk 0 1 hk3) h2 sK) (Ev.bind (tsame_ev _ _ (hzzz 0 1 0) (by have := hz 1; omega)) (Ev.ite (fun h4 => ?_) fun h4 => ?_)))
        · refine Ev.some (k20 (hck 0) h sA) (Ev.ret ?_)
          rw [desT_eq t (b := true) (by rw [hf, show isN (kid t 0) nAenc = true from h, show isN (kid (kid t 0) 1) nPk = true from h2, h4]; rfl), if_pos rfl, if_neg (by rw [hn]; decide)]
        · refine Ev.ret ?_
          rw [desT_eq t (b := false) (by rw [hf, h4, Bool.and_false]), if_neg (by decide)]
      · refine Ev.ret ?_
        rw [desT_eq t (b := false) (by rw [hf, show isN (kid (kid t 0) 1) nPk = false from h2, Bool.and_false, Bool.false_and]), if_neg (by decide)]
    · refine Ev.ret ?_
      rw [desT_eq t (b := false) (by rw [hf, show isN (kid t 0) nAenc = false from h]; rfl), if_neg (by decide)]
  · have hl := one (a := 2) (b := 2) (c := 3) (by rw [hn]; decide) rfl
    refine Ev.some (kid_0 (by omega)) (Ev.ct (ilt_t.2 (by omega)) (Ev.some (kid_1 (by omega)) (Ev.cf (by rw [hn]; rfl) (Ev.cf (by rw [hn]; rfl) (Ev.cf (by rw [hn]; rfl) (Ev.cf (by rw [hn]; rfl) (Ev.ct (by rw [hn]; rfl) (Ev.bind (is_ev _ _) ?_))))))))
    have hf : fitsD t = (isN (kid t 0) nSign && isN (kid t 1) nPk && sameT (kid (kid t 0) 1) (kid (kid t 1) 0)) := by unfold fitsD; rw [if_neg (by rw [hn]; decide), if_neg (by rw [hn]; decide), if_neg (by rw [hn]; decide), if_pos hn]
    refine Ev.ite (fun h => ?_) fun h => ?_
    · refine Ev.bind (is_ev _ _) (Ev.ite (fun h2 => ?_) fun h2 => ?_)
      · refine Ev.some (k21 (hck 0) h sS) (Ev.some (k0 (hck 1) h2 sK) (Ev.bind (tsame_ev _ _ (hzz 0 1) (hzz 1 0)) (Ev.ite (fun h4 => ?_) fun h4 => ?_)))
        · refine Ev.some (k20 (hck 0) h sS) (Ev.ret ?_)
          rw [desT_eq t (b := true) (by rw [hf, show isN (kid t 0) nSign = true from h, show isN (kid t 1) nPk = true from h2, h4]; rfl), if_pos rfl, if_neg (by rw [hn]; decide)]
        · refine Ev.ret ?_
          rw [desT_eq t (b := false) (by rw [hf, h4, Bool.and_false]), if_neg (by decide)]
      · refine Ev.ret ?_
        rw [desT_eq t (b := false) (by rw [hf, show isN (kid t 1) nPk = false from h2, Bool.and_false, Bool.false_and]), if_neg (by decide)]
    · refine Ev.ret ?_
      rw [desT_eq t (b := false) (by rw [hf, show isN (kid t 0) nSign = false from h]; rfl), if_neg (by decide)]
  · have hl := one (a := 1) (b := 1) (c := 3) (by rw [hn]; decide) rfl
    refine Ev.some (kid_0 (by omega)) (Ev.cf (ilt_f.2 (by omega)) (Ev.cf (by rw [hn]; rfl) (Ev.cf (by rw [hn]; rfl) (Ev.cf (by rw [hn]; rfl) (Ev.cf (by rw [hn]; rfl) (Ev.cf (by rw [hn]; rfl) (Ev.ct (by rw [hn]; rfl) (Ev.bind (is_ev _ _) ?_))))))))
    have hf : fitsD t = isN (kid t 0) nSign := by unfold fitsD; rw [if_neg (by rw [hn]; decide), if_neg (by rw [hn]; decide), if_neg (by rw [hn]; decide), if_neg (by rw [hn]; decide), if_pos hn]
    refine Ev.ite (fun h => ?_) fun h => ?_
    · refine Ev.some (k20 (hck 0) h sS) (Ev.ret ?_)
      rw [desT_eq t (hf.trans h), if_pos rfl, if_neg (by rw [hn]; decide)]
    · refine Ev.ret ?_
      rw [desT_eq t (hf.trans h), if_neg (by decide)]
end Go.AmYtmodnblfcikjlaaGreat
namespace Go.AmYtmodnblfcikjlaaGreat
open Go Go.GxYtmodnblfcikjlaaGreat
/-- Applications bear no sort. -/
noncomputable def srtT : T → Prop := T.para fun t rs => (t.kind = 3 → t.sort = 0) ∧ ∀ p ∈ rs, p
theorem srtT_eq (t : T) : srtT t ↔ (t.kind = 3 → t.sort = 0) ∧ ∀ k ∈ t.kids, srtT k := by
  have h : srtT t = ((t.kind = 3 → t.sort = 0) ∧ ∀ p ∈ t.kids.map srtT, p) := T.para_eq _ _
  rw [h]
  refine and_congr_right fun _ => ⟨fun h k hk => h _ (List.mem_map_of_mem hk), fun h p hp => ?_⟩
  obtain ⟨k, hk, rfl⟩ := List.mem_map.1 hp
  exact h k hk
theorem srt_cl : Cl srtT := fun t _ h => ((srtT_eq t).1 h).2
theorem srt_zT : srtT zT := (srtT_eq zT).2 ⟨fun h => absurd h (by decide), fun _ h => by cases h⟩
theorem srt_app (n : List UInt8) (ks : List T) (h : ∀ k ∈ ks, srtT k) : srtT (apT n ks) := (srtT_eq _).2 ⟨fun _ => rfl, h⟩
theorem nodeE_sort {t : T} (h3 : t.kind = 3) (h : nodeE t = 0) : t.sort = 0 := by
  unfold nodeE nodeK at h
  rw [if_neg (by omega), if_pos h3] at h
  split at h
  · cases h
  · omega
theorem srt_nodes (t : T) : nodesE t = 0 → srtT t := by
  refine T.ind (P := fun t => nodesE t = 0 → srtT t) ?_ t
  intro t ih h
  obtain ⟨h1, h2⟩ := nodesE_zero h
  exact (srtT_eq t).2 ⟨fun h3 => nodeE_sort h3 h1, fun k hk => ih k hk (h2 k hk)⟩
theorem valid_nodes {t : T} (h : validE t = 0) : nodesE t = 0 := by
  unfold validE at h
  split at h
  · rename_i h1; exact absurd h h1
  · rename_i h1; exact Decidable.of_not_not h1
theorem finN_cl {P : T → Prop} (hP : Cl P) (hz : P zT) (hap : ∀ n ks, (∀ k ∈ ks, P k) → P (apT n ks)) {n : List UInt8} {ks : List T} (hks : ∀ k ∈ ks, P k) : P (finN (apT n ks)).1 := by
  have ht := hap n ks hks
  have hkid : ∀ {t : T} (i : Nat), P t → t.kind = 3 → P (kid t i) := fun i h h3 => kid_cl hP hz h3 h i
  have hterm : ∀ l : List Pw, (∀ p ∈ l, P p.1) → P (termP l).1 := by
    intro l hl
    unfold termP
    split
    · exact hz
    · split
      · exact hz
      · split
        · exact hz
        · have hall : ∀ x ∈ posL l ++ negL l, P x := fun x hx => by
            rcases List.mem_append.1 hx with hx | hx
            · obtain ⟨p, hp, rfl⟩ := posL_mem hx
              exact hl p hp
            · obtain ⟨p, hp, rfl⟩ := negL_mem hx
              exact hap _ _ fun k hk => by rw [List.mem_singleton.1 hk]; exact hl p hp
          show P (outP _)
          generalize posL l ++ negL l = o at *
          unfold outP
          split
          · exact hap _ _ fun k hk => by cases hk
          · split
            · exact getD_cl hz hall
            · exact hap _ _ hall
  have hexp : ∀ (b : T) (l : List Pw), P b → (∀ p ∈ l, P p.1) → P (expT b l).1 := by
    intro b l hb hl
    unfold expT
    split
    · exact hb
    · split
      · exact hz
      · refine hap _ _ fun k hk => ?_
        rcases List.mem_cons.1 hk with rfl | hk
        · exact hb
        · rw [List.mem_singleton.1 hk]; exact hterm l hl
  unfold finN
  split
  · show P (desT _)
    unfold desT
    split
    · rename_i hf
      have hk0 : (kid (apT n ks) 0).kind = 3 := by
        unfold fitsD at hf
        split at hf
        · exact (isN_t.1 hf).1
        · split at hf
          · rw [Bool.and_eq_true] at hf; exact (isN_t.1 hf.1).1
          · split at hf
            · rw [Bool.and_eq_true, Bool.and_eq_true] at hf; exact (isN_t.1 hf.1.1).1
            · split at hf
              · rw [Bool.and_eq_true, Bool.and_eq_true] at hf; exact (isN_t.1 hf.1.1).1
              · split at hf
                · exact (isN_t.1 hf).1
                · cases hf
      exact hkid _ (hkid 0 ht rfl) hk0
    · exact ht
  · split
    · unfold sumX
      split
      · exact hz
      · split
        · exact hz
        · have hall := partsX_cl hP hks
          show P (outX (partsX ks))
          generalize partsX ks = o at *
          unfold outX
          split
          · exact hap _ _ fun k hk => by cases hk
          · split
            · exact getD_cl hz hall
            · exact hap _ _ hall
    · split
      · unfold prodT
        split
        · exact hz
        · exact hterm _ (ofP_cl hP ht)
      · split
        · have hb := hkid (t := apT n ks) 0 ht rfl
          have hy := hkid (t := apT n ks) 1 ht rfl
          generalize kid (apT n ks) 0 = b at *
          generalize kid (apT n ks) 1 = y at *
          unfold raiT
          split
          · exact hz
          · split
            · rename_i hbe
              have hb3 := (isN_t.1 hbe).1
              split
              · exact hz
              · split
                · exact hz
                · exact hexp _ _ (hkid 0 hb hb3) (mulP_cl (ofP_cl hP (hkid 1 hb hb3)) (ofP_cl hP hy))
            · exact hexp _ _ hb (ofP_cl hP hy)
        · exact ht
theorem norT_cl {P : T → Prop} (hP : Cl P) (hz : P zT) (hap : ∀ n ks, (∀ k ∈ ks, P k) → P (apT n ks)) (t : T) : P t → P (norT t).1 := by
  refine T.ind (P := fun t => P t → P (norT t).1) ?_ t
  intro t ih h
  rw [norT_eq]
  split
  · exact h
  · rename_i h3
    split
    · exact hz
    · refine finN_cl hP hz hap fun k hk => ?_
      obtain ⟨q, hq, rfl⟩ := List.mem_map.1 hk
      obtain ⟨j, hj, rfl⟩ := List.mem_map.1 hq
      exact ih j hj (hP t (Decidable.of_not_not h3) h j hj)
/-- A term that is the application of pk. -/
theorem pk_same {u x : T} (hc : chkE u = 0) (hs : srtT u) : sameT u (apT nPk [x]) = (isN u nPk && sameT (kid u 0) x) := by
  rw [Bool.eq_iff_iff, Bool.and_eq_true, sameT_iff, sameT_iff]
  constructor
  · rintro rfl
    exact ⟨isN_t.2 ⟨rfl, rfl⟩, rfl⟩
  · rintro ⟨h1, h2⟩
    obtain ⟨h3, hn⟩ := isN_t.1 h1
    have har := arity_of hc h1 (a := 1) (b := 1) (c := 1) (by decide)
    have hso := ((srtT_eq u).1 hs).1 h3
    cases u with
    | mk k n so ks =>
      have h3 : k = 3 := h3
      have hn : n = nPk := hn
      have hso : so = 0 := hso
      have hl : ks.length = 1 := by
        have h1 : (1 : Int) ≤ (ks.length : Int) := har.1
        have h2 : (ks.length : Int) ≤ 1 := har.2.1
        omega
      cases ks with
      | nil => cases hl
      | cons y r =>
        cases r with
        | nil =>
          have : y = x := h2
          subst h3; subst hn; subst hso; subst this; rfl
        | cons z r => simp at hl
theorem sameT_comm (a b : T) : sameT a b = sameT b a := by
  rw [Bool.eq_iff_iff, sameT_iff, sameT_iff]; exact eq_comm
theorem rdestroy_ev (t : T) (h3 : t.kind = 3) (hc : chkE t = 0) (hso : srtT t) (hD : isD t.name = true) (hs : size t ≤ 900000000) : Ev (fun m _ => ref09_destroy m t) (desT t, fitsD t) := by
  have hz : ∀ i, size (kid t i) ≤ size t := kid_sz t
  have hzz : ∀ i j, size (kid (kid t i) j) ≤ 900000000 := fun i j => by have := kid_sz (kid t i) j; have := hz i; omega
  have hck : ∀ i, chkE (kid t i) = 0 := fun i => kid_cl chk_cl chk_zT h3 hc i
  have hckk : ∀ i j, (kid t i).kind = 3 → chkE (kid (kid t i) j) = 0 := fun i j h => kid_cl chk_cl chk_zT h (hck i) j
  have hsk : ∀ i, srtT (kid t i) := fun i => kid_cl srt_cl srt_zT h3 hso i
  have hskk : ∀ i j, (kid t i).kind = 3 → srtT (kid (kid t i) j) := fun i j h => kid_cl srt_cl srt_zT h (hsk i) j
  have isT : isN t t.name = true := isN_t.2 ⟨h3, rfl⟩
  have k20 : ∀ {u : T} {n : List UInt8}, chkE u = 0 → isN u n = true → ∀ {b c : Int}, symOf n = (2, b, c) → lget u.kids 0 = some (kid u 0) := fun h hn _ _ e => kid_of (i := 0) h hn e (by decide)
  have k21 : ∀ {u : T} {n : List UInt8}, chkE u = 0 → isN u n = true → ∀ {b c : Int}, symOf n = (2, b, c) → lget u.kids 1 = some (kid u 1) := fun h hn _ _ e => kid_of (i := 1) h hn e (by decide)
  have sP : symOf nPair = (2, 2, 1) := by decide
  have sE : symOf nEnc = (2, 2, 1) := by decide
  have sA : symOf nAenc = (2, 2, 1) := by decide
  have sS : symOf nSign = (2, 2, 1) := by decide
  unfold isD at hD
  simp only [Bool.or_eq_true, beq_iff_eq] at hD
  refine Ev.succ ?_
  simp only [ref09_destroy_e, ref09_destroy_s0, re_eq]
  have one : ∀ {a b c : Int}, symOf t.name = (a, b, c) → a = b → (t.kids.length : Int) = a := fun e hab => by
    have := arity_of hc isT e; omega
  have size_pk : ∀ x : T, size (apT nPk [x]) = 1 + size x := fun x => by rw [size_eq]; show 1 + (size x + 0) = _; omega
  rcases hD with ((((hn | hn) | hn) | hn) | hn) | hn
  · have hl := one (a := 1) (b := 1) (c := 3) (by rw [hn]; decide) rfl
    refine Ev.some (kid_0 (by omega)) (Ev.ct (by rw [hn]; rfl) (Ev.bind (ris_ev _ _) ?_))
    have hf : fitsD t = isN (kid t 0) nPair := by unfold fitsD; rw [if_pos (.inl hn)]
    refine Ev.ite (fun h => ?_) fun h => ?_
    · refine Ev.some (k20 (hck 0) h sP) (Ev.ret ?_)
      rw [desT_eq t (hf.trans h), if_pos rfl, if_neg (by rw [hn]; decide), hf.trans h]
    · repeat (refine Ev.cf (by rw [hn]; rfl) ?_)
      refine Ev.ret ?_
      rw [desT_eq t (hf.trans h), if_neg (by decide), hf.trans h]
  · have hl := one (a := 1) (b := 1) (c := 3) (by rw [hn]; decide) rfl
    refine Ev.some (kid_0 (by omega)) (Ev.cf (by rw [hn]; rfl) (Ev.ct (by rw [hn]; rfl) (Ev.bind (ris_ev _ _) ?_)))
    have hf : fitsD t = isN (kid t 0) nPair := by unfold fitsD; rw [if_pos (.inr hn)]
    refine Ev.ite (fun h => ?_) fun h => ?_
    · refine Ev.some (k21 (hck 0) h sP) (Ev.ret ?_)
      rw [desT_eq t (hf.trans h), if_pos rfl, if_pos hn, hf.trans h]
    · repeat (refine Ev.cf (by rw [hn]; rfl) ?_)
      refine Ev.ret ?_
      rw [desT_eq t (hf.trans h), if_neg (by decide), hf.trans h]
  · have hl := one (a := 2) (b := 2) (c := 3) (by rw [hn]; decide) rfl
    refine Ev.some (kid_0 (by omega)) (Ev.cf (by rw [hn]; rfl) (Ev.cf (by rw [hn]; rfl) (Ev.ct (by rw [hn]; rfl) (Ev.bind (ris_ev _ _) ?_))))
    have hf : fitsD t = (isN (kid t 0) nEnc && sameT (kid (kid t 0) 1) (kid t 1)) := by unfold fitsD; rw [if_neg (by rw [hn]; decide), if_pos hn]
    refine Ev.ite (fun h => ?_) fun h => ?_
    · refine Ev.some (k21 (hck 0) h sE) (Ev.some (kid_1 (by omega)) (Ev.bind (rsame_ev _ _ (by have := hzz 0 1; omega) (by have := hz 1; omega)) (Ev.ite (fun h2 => ?_) fun h2 => ?_)))
      · have hb : fitsD t = true := by rw [hf, show isN (kid t 0) nEnc = true from h, h2]; rfl
        refine Ev.some (k20 (hck 0) h sE) (Ev.ret ?_)
        rw [desT_eq t hb, if_pos rfl, if_neg (by rw [hn]; decide), hb]
      · have hb : fitsD t = false := by rw [hf, h2, Bool.and_false]
        repeat (refine Ev.cf (by rw [hn]; rfl) ?_)
        refine Ev.ret ?_
        rw [desT_eq t hb, if_neg (by decide), hb]
    · have hb : fitsD t = false := by rw [hf, show isN (kid t 0) nEnc = false from h]; rfl
      repeat (refine Ev.cf (by rw [hn]; rfl) ?_)
      refine Ev.ret ?_
      rw [desT_eq t hb, if_neg (by decide), hb]
  · have hl := one (a := 2) (b := 2) (c := 3) (by rw [hn]; decide) rfl
    refine Ev.some (kid_0 (by omega)) (Ev.cf (by rw [hn]; rfl) (Ev.cf (by rw [hn]; rfl) (Ev.cf (by rw [hn]; rfl) (Ev.ct (by rw [hn]; rfl) (Ev.bind (ris_ev _ _) ?_)))))
    have hf : fitsD t = (isN (kid t 0) nAenc && isN (kid (kid t 0) 1) nPk && sameT (kid (kid (kid t 0) 1) 0) (kid t 1)) := by unfold fitsD; rw [if_neg (by rw [hn]; decide), if_neg (by rw [hn]; decide), if_pos hn]
    refine Ev.ite (fun h => ?_) fun h => ?_
    · have hk3 := (isN_t.1 h).1
      refine Ev.some (k21 (hck 0) h sA) (Ev.some (kid_1 (by omega)) (Ev.bind (rapp_ev nPk [kid t 1] (by simp)) (Ev.bind (rsame_ev _ _ (by have := hzz 0 1; omega) (by rw [size_pk]; have := hz 1; omega)) ?_)))
      rw [pk_same (hckk 0 1 hk3) (hskk 0 1 hk3)]
      refine Ev.ite (fun h2 => ?_) fun h2 => ?_
      · have hb : fitsD t = true := by rw [hf, show isN (kid t 0) nAenc = true from h, Bool.true_and, h2]
        refine Ev.some (k20 (hck 0) h sA) (Ev.ret ?_)
        rw [desT_eq t hb, if_pos rfl, if_neg (by rw [hn]; decide), hb]
      · have hb : fitsD t = false := by rw [hf, show isN (kid t 0) nAenc = true from h, Bool.true_and, h2]
        repeat (refine Ev.cf (by rw [hn]; rfl) ?_)
        refine Ev.ret ?_
        rw [desT_eq t hb, if_neg (by decide), hb]
    · have hb : fitsD t = false := by rw [hf, show isN (kid t 0) nAenc = false from h]; rfl
      repeat (refine Ev.cf (by rw [hn]; rfl) ?_)
      refine Ev.ret ?_
      rw [desT_eq t hb, if_neg (by decide), hb]
  · have hl := one (a := 2) (b := 2) (c := 3) (by rw [hn]; decide) rfl
    refine Ev.some (kid_0 (by omega)) (Ev.cf (by rw [hn]; rfl) (Ev.cf (by rw [hn]; rfl) (Ev.cf (by rw [hn]; rfl) (Ev.cf (by rw [hn]; rfl) (Ev.ct (by rw [hn]; rfl) (Ev.bind (ris_ev _ _) ?_))))))
    have hf : fitsD t = (isN (kid t 0) nSign && isN (kid t 1) nPk && sameT (kid (kid t 0) 1) (kid (kid t 1) 0)) := by unfold fitsD; rw [if_neg (by rw [hn]; decide), if_neg (by rw [hn]; decide), if_neg (by rw [hn]; decide), if_pos hn]
    refine Ev.ite (fun h => ?_) fun h => ?_
    · refine Ev.some (kid_1 (by omega)) (Ev.some (k21 (hck 0) h sS) (Ev.bind (rapp_ev nPk [kid (kid t 0) 1] (by simp)) (Ev.bind (rsame_ev _ _ (by have := hz 1; omega) (by rw [size_pk]; have := hzz 0 1; omega)) ?_)))
      rw [pk_same (hck 1) (hsk 1), sameT_comm (kid (kid t 1) 0)]
      refine Ev.ite (fun h2 => ?_) fun h2 => ?_
      · have hb : fitsD t = true := by rw [hf, show isN (kid t 0) nSign = true from h, Bool.true_and, h2]
        refine Ev.some (k20 (hck 0) h sS) (Ev.ret ?_)
        rw [desT_eq t hb, if_pos rfl, if_neg (by rw [hn]; decide), hb]
      · have hb : fitsD t = false := by rw [hf, show isN (kid t 0) nSign = true from h, Bool.true_and, h2]
        repeat (refine Ev.cf (by rw [hn]; rfl) ?_)
        refine Ev.ret ?_
        rw [desT_eq t hb, if_neg (by decide), hb]
    · have hb : fitsD t = false := by rw [hf, show isN (kid t 0) nSign = false from h]; rfl
      repeat (refine Ev.cf (by rw [hn]; rfl) ?_)
      refine Ev.ret ?_
      rw [desT_eq t hb, if_neg (by decide), hb]
  · have hl := one (a := 1) (b := 1) (c := 3) (by rw [hn]; decide) rfl
    refine Ev.some (kid_0 (by omega)) (Ev.cf (by rw [hn]; rfl) (Ev.cf (by rw [hn]; rfl) (Ev.cf (by rw [hn]; rfl) (Ev.cf (by rw [hn]; rfl) (Ev.cf (by rw [hn]; rfl) (Ev.ct (by rw [hn]; rfl) (Ev.bind (ris_ev _ _) ?_)))))))
    have hf : fitsD t = isN (kid t 0) nSign := by unfold fitsD; rw [if_neg (by rw [hn]; decide), if_neg (by rw [hn]; decide), if_neg (by rw [hn]; decide), if_neg (by rw [hn]; decide), if_pos hn]
    refine Ev.ite (fun h => ?_) fun h => ?_
    · refine Ev.some (k20 (hck 0) h sS) (Ev.ret ?_)
      rw [desT_eq t (hf.trans h), if_pos rfl, if_neg (by rw [hn]; decide), hf.trans h]
    · repeat (refine Ev.cf (by rw [hn]; rfl) ?_)
      refine Ev.ret ?_
      rw [desT_eq t (hf.trans h), if_neg (by decide), hf.trans h]
end Go.AmYtmodnblfcikjlaaGreat
