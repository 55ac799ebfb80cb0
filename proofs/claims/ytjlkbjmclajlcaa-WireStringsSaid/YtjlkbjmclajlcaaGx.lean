/- A small kit of my own over the guide's: laws for append in a form that fits at once. -/
import Derived.WalkKit
import Derived.WalkSpells
import Derived.WalkLawsBesides
import Derived.Lib.Hide
import Derived.Laws.AppendOwnNone
import Derived.BigQuiet
namespace Go.GxYtjlkbjmclajlcaa
open Go.RowKit

/-- 'append(out, x)' of newly built elements: out is nil or the call's own. -/
theorem append_new {P : Program} (W : World) (news : List Value) (t e : TypeId) (i : TypeInfo) (z : Value) (size bytes : Nat)
    {ops : Array Oper} {rest : List Oper} {o : Oper} {a : Act} {Q : Exit → Act → World → Prop} (s x : Operand)
    (base : Nat) (m c : Nat)
    (hgd : o.guard = none) (ho : o.op = .call { callee := .builtin .append, args := #[s, x], argTypes := #[t, t] })
    (hx : a.eval x = .slice (some ⟨W.heap.size, 0, none⟩) m c)
    (ht : P.underlying t = some (.slice e)) (hi : P.info? e = some i) (hz : i.zero = some z)
    (hsize : i.size = size) (hby : i.bytes = bytes) (hzs : z.cells.size = size) (hsz : 0 < size)
    (v : Value) (n : Nat) (xs : List Value) (hs : a.eval s = v) (hown : W.ownsRow base e size v n xs)
    (hl : news.length = m * size) (h1 : ∀ u ∈ news, u.oneCell' = true)
    (h63 : n + m ≤ maxLen) (hbytes : (n + m) * bytes ≤ 140737488355328) (hbase : base ≤ W.heap.size)
    (h : ∀ v' w', w'.ownsRow base e size v' (n + m) (xs ++ news) → W.grownBy w' v.ownBlock → (v' = .slice none 0 0 ↔ v = .slice none 0 0 ∧ m = 0) → wpList P ops Q rest (a.put o.dst v') w') :
    wpList P ops Q (o :: rest) a (W.alloc (.cells news.toArray e)) := by
  refine wpList_append_own _ hgd s x t ho base e i z size bytes ht hi hz hsize hby hzs hsz v n xs hs (hown.alloc _) ⟨W.heap.size, 0, none⟩ m c news hx hl ?_ h1 h63 hbytes (by simp; omega) ?_
  · intro j u hj
    have hjl : j < news.length := by
      rcases Nat.lt_or_ge j news.length with h | h
      · exact h
      · rw [List.getElem?_eq_none h] at hj; cases hj
    have e1 : (⟨W.heap.size, 0, none⟩ : Addr).add j = ⟨W.heap.size, j, none⟩ := by unfold Addr.add; split <;> simp_all
    rw [e1, World.cell?_alloc_mark]
    simpa using hj
  · intro v' w' h2 h3 h4
    refine h v' w' h2 ⟨h3.os, h3.tape, h3.output, ?_, ?_⟩ h4
    · have := h3.size; simp at this; omega
    · intro k hk hne
      rw [h3.block k (by simp; omega) hne]
      exact Below.heap_alloc _ _ _ hk

/-- 'append(a, b...)' of two rows of the call's own (either may be nil). -/
theorem append_own2 {P : Program} (W : World) (t e : TypeId) (i : TypeInfo) (z : Value) (size bytes : Nat)
    {ops : Array Oper} {rest : List Oper} {o : Oper} {a : Act} {Q : Exit → Act → World → Prop} (s x : Operand)
    (base base2 : Nat)
    (hgd : o.guard = none) (ho : o.op = .call { callee := .builtin .append, args := #[s, x], argTypes := #[t, t] })
    (v2 : Value) (m : Nat) (ys : List Value) (hx : a.eval x = v2) (hown2 : W.ownsRow base2 e size v2 m ys)
    (ht : P.underlying t = some (.slice e)) (hi : P.info? e = some i) (hz : i.zero = some z)
    (hsize : i.size = size) (hby : i.bytes = bytes) (hzs : z.cells.size = size) (hsz : 0 < size)
    (v : Value) (n : Nat) (xs : List Value) (hs : a.eval s = v) (hown : W.ownsRow base e size v n xs)
    (h1 : ∀ u ∈ ys, u.oneCell' = true)
    (h63 : n + m ≤ maxLen) (hbytes : (n + m) * bytes ≤ 140737488355328) (hbase : base ≤ W.heap.size)
    (h : ∀ v' w', w'.ownsRow base e size v' (n + m) (xs ++ ys) → W.grownBy w' v.ownBlock → wpList P ops Q rest (a.put o.dst v') w') :
    wpList P ops Q (o :: rest) a W := by
  have hcells := @World.ownsRow.cells W base2 e size v2 m ys hown2
  obtain ⟨hl, hv⟩ := hown2
  rcases hv with ⟨rfl, rfl⟩ | ⟨g, cap, cur, rfl, _, _, _, _, _, _⟩
  · refine wpList_append_own_none hgd s x t ho base e i size ht hi v n xs hs hown hx ?_
    have hy : ys = [] := List.length_eq_zero_iff.1 (by simpa using hl)
    subst hy
    exact h v W (by simpa using hown) (World.grownBy.refl W _)
  · exact wpList_append_own _ hgd s x t ho base e i z size bytes ht hi hz hsize hby hzs hsz v n xs hs hown ⟨g, 0, none⟩ m cap ys hx hl (fun j u hj => hcells rfl j u hj) h1 h63 hbytes hbase fun v' w' a b _ => h v' w' a b

theorem bytes_one (l : List UInt8) : ∀ u ∈ Lib.byteCells l, u.oneCell' = true := by
  intro u hu
  obtain ⟨b, _, rfl⟩ := List.mem_map.1 hu
  rfl
theorem own_shape {W : World} {base : Nat} {e : TypeId} {size : Nat} {v : Value} {n : Nat} {xs : List Value} (h : W.ownsRow base e size v n xs) : ∃ a c, v = .slice a n c := by
  rcases h.2 with ⟨rfl, rfl⟩ | ⟨g, cap, cur, rfl, _⟩
  · exact ⟨_, _, rfl⟩
  · exact ⟨_, _, rfl⟩
/-- A row of the call's own stays while nothing that there is turns. -/
theorem own_below {W W' : World} {base : Nat} {e : TypeId} {size : Nat} {v : Value} {n : Nat} {xs : List Value} (h : W.ownsRow base e size v n xs) (hb : Below W.heap.size W W') : W'.ownsRow base e size v n xs := by
  have hlt := h.lt
  obtain ⟨h1, h2⟩ := h
  refine ⟨h1, ?_⟩
  rcases h2 with h2 | ⟨g, cap, cur, rfl, hg, hh, r⟩
  · exact Or.inl h2
  · exact Or.inr ⟨g, cap, cur, rfl, hg, (hb.block g (hlt g rfl).2).trans hh, r⟩
/-- Behind an append onto a row that was just built. -/
theorem grown_new {w W w' : World} {o : Obj} {g : Nat} {n c : Nat} (hb : Below w.heap.size w W) (hg : (W.alloc o).grownBy w' (Value.slice (some ⟨g, 0, none⟩) n c).ownBlock) (hw : w.heap.size ≤ g) : Below w.heap.size w w' :=
  (hb.alloc hb.size o).grown hg (by have := hb.size; simp; omega) (fun k hk => by cases hk; exact hw)

/-- A row that was just built is owned, all of it. -/
theorem owns_new (W : World) (base : Nat) (e : TypeId) (size n : Nat) (l : List Value) (hb : base ≤ W.heap.size) (hl : l.length = n * size) (hm : n ≤ maxLen) :
    (W.alloc (.cells l.toArray e)).ownsRow base e size (.slice (some ⟨W.heap.size, 0, none⟩) n n) n l :=
  ⟨hl, .inr ⟨W.heap.size, n, l.toArray, rfl, hb, heap_alloc_new W _, Nat.le_refl _, hm, by simpa using hl, by simp [← hl]⟩⟩

/-- string(b) of the call's own bytes. -/
theorem run_string_own {P : Program} {W : World} {base : Nat} {v : Value} {n : Nat} {l : List UInt8} (src dst e : TypeId) (hs : P.underlying src = some (.slice e)) (he : P.underlying e = some (.int .u8)) (hd : P.underlying dst = some .string)
    (hown : W.ownsRow base e 1 v n (Lib.byteCells l)) : (convert src dst v).run P W = .ok (.string ⟨l.toArray⟩) W := by
  have hcells := @World.ownsRow.cells W base e 1 v n _ hown
  obtain ⟨hn, hv⟩ := hown
  have hn : l.length = n := by simpa [Lib.byteCells] using hn
  rcases hv with ⟨rfl, rfl⟩ | ⟨g, cap, cur, rfl, _, hh, _, _, _, hx⟩
  · obtain rfl : l = [] := List.length_eq_zero_iff.1 hn
    exact run_convert_bytes_nil W src e hs he 0 0 dst hd
  · subst hn
    refine run_convert_bytes_back W src dst e ⟨g, 0, none⟩ cap l hs he hd fun j hj => hcells rfl j _ ?_
    simp [Lib.byteCells, List.getElem?_eq_getElem hj]

/-- A world that is as w below block B. -/
structure Later (B : Nat) (w : World) where
  val : World
  below : Below B w val
instance (B : Nat) (w : World) : Nonempty (Later B w) := ⟨⟨w, Below.refl _ _⟩⟩
/-- A region that draws its order: its operations read, its callees leave what lay below block B as it was. -/
theorem wp_region_later {P : Program} {id : Nat} {Q : Exit → Act → World → Prop} {a : Act} {w : World} {l : List Oper} (B : Nat) (hm : P.follows .mixedOrders = true) (hB : Region.lexB .any l.toArray = true)
    (h : wpQuiet P l.toArray (fun x => ∃ u : Later B w, x = u.val) (fun a' => ∀ w', (∃ u : Later B w, w' = u.val) → Q .normal a' w') l a) : (Code.region id l.toArray true).wp P Q a w :=
  wp_region_quiet (C := fun x => ∃ u : Later B w, x = u.val) hm hB ⟨⟨w.drew, (Below.refl _ _).drew⟩, rfl⟩ (by simpa using h)
theorem later_call {P : Program} {f : FuncId} {args : Array Value} {w : World} {B : Nat} {u : Later B w} {v : Value} (hB : B ≤ w.heap.size) (h : Calls P f args u.val fun e w' => e = .returned v ∧ Below u.val.heap.size u.val w') :
    Calls P f args u.val fun e w' => e = .returned v ∧ ∃ u' : Later B w, w' = u'.val :=
  h.mono fun _ w' ⟨h1, h2⟩ => ⟨h1, ⟨w', u.below.trans (h2.mono (Nat.le_trans hB u.below.size))⟩, rfl⟩
theorem later_call_same {P : Program} {f : FuncId} {args : Array Value} {w : World} {B : Nat} {u : Later B w} {v : Value} (h : Calls P f args u.val fun e w' => e = .returned v ∧ u.val = w') :
    Calls P f args u.val fun e w' => e = .returned v ∧ ∃ u' : Later B w, w' = u'.val :=
  h.mono fun _ _ ⟨h1, h2⟩ => ⟨h1, u, h2.symm⟩

/-- s[i] as one fact of the run. -/
theorem run_index_at {P : Program} (T : TypeId) (hT : P.underlying T = some .string) (s : ByteArray) (i : Nat) (c : UInt8) (h0 : s.data.toList[i]? = some c) (w : World) : (Instr.index T (.string s) (.int .i64 i)).run P w = .ok (.int .u8 c.toNat) w := by
  have hi : i < s.size := by
    have := (List.getElem?_eq_some_iff.1 h0).1
    simpa using this
  have he : s[i] = c := by
    have := (List.getElem?_eq_some_iff.1 h0).2
    simp at this
    exact this
  rw [run_index_string w T s .i64 i hT, dif_pos ⟨by omega, by omega⟩]
  simp [he]

/-- '[]byte(s)': a new block whose first cells are the bytes of s, none of them frozen. -/
theorem bytes_of_string {P : Program} (w : World) (src dst e : TypeId) (s : ByteArray) (hs : P.underlying src = some .string) (hd : P.underlying dst = some (.slice e)) (he : P.underlying e = some (.int .u8)) :
    ∃ (cap : Nat) (w1 : World), (convert src dst (.string s)).run P w = .ok (.slice (some ⟨w.heap.size, 0, none⟩) s.size cap) w1 ∧ Below w.heap.size w w1 ∧ w1.heap.size = w.heap.size + 1 ∧
      (∀ (i : Nat) (c : UInt8), s.data.toList[i]? = some c → w1.cell? ⟨w.heap.size, i, none⟩ = some (Value.int .u8 (c.toNat : Int))) ∧
      (∀ i : Nat, i < s.size → w1.frozen? ⟨w.heap.size, i, none⟩ = false) := by
  refine ⟨_, _, run_bytes_of_string w src dst e s hs hd he, ((Below.refl _ _).drew).alloc (Nat.le_refl _) _, by simp, ?_, ?_⟩
  · intro i c hc
    have hi : i < s.data.size := by
      have := (List.getElem?_eq_some_iff.1 hc).1
      simpa using this
    rw [show w.heap.size = w.drew.heap.size from rfl, World.cell?_alloc_mark]
    rw [bytesRow_at s _ i hi]
    have := (List.getElem?_eq_some_iff.1 hc).2
    simp at this
    rw [this]
  · intro i hi
    rw [show w.heap.size = w.drew.heap.size from rfl, World.frozen?_alloc_mark]
    simp [bytesRow]
    intro h
    have : s.data.size = s.size := rfl
    omega

theorem list_of_string (s : ByteArray) : s.data.toList.length = s.size := by simp
theorem isEmpty_of_string (s : ByteArray) : s.toList.isEmpty = s.data.toList.isEmpty := by rw [ByteArray.toList_eq]
/-- s[lo:hi] as one fact of the run. -/
theorem run_slice_at {P : Program} (T : TypeId) (hT : P.underlying T = some .string) (s : ByteArray) (lo hi : Nat) (h1 : lo ≤ hi) (h2 : hi ≤ s.size) (w : World) :
    (Instr.slice T (.string s) (some (.int .i64 lo)) (some (.int .i64 hi)) none).run P w = .ok (.string (s.extract lo hi)) w := by
  rw [run_slice_string w T s .i64 .i64 lo hi hT (by omega) (by omega) (by omega)]
  simp
theorem run_slice_to {P : Program} (T : TypeId) (hT : P.underlying T = some .string) (s : ByteArray) (hi : Nat) (h2 : hi ≤ s.size) (w : World) :
    (Instr.slice T (.string s) none (some (.int .i64 hi)) none).run P w = .ok (.string (s.extract 0 hi)) w := by
  have := run_slice_string_to_if (P := P) w T s .i64 hi hT
  rw [this]
  simp; omega
theorem run_slice_from {P : Program} (T : TypeId) (hT : P.underlying T = some .string) (s : ByteArray) (lo : Nat) (h2 : lo ≤ s.size) (w : World) :
    (Instr.slice T (.string s) (some (.int .i64 lo)) none none).run P w = .ok (.string (s.extract lo s.size)) w := by
  have := run_slice_string_from_if (P := P) w T s .i64 lo hT
  rw [this]
  simp; omega
theorem extract_toList (s : ByteArray) (lo hi : Nat) : (s.extract lo hi).data.toList = (s.data.toList.drop lo).take (hi - lo) := by
  rw [ByteArray.data_extract, Array.toList_extract, List.extract_eq_take_drop]

end Go.GxYtjlkbjmclajlcaa
