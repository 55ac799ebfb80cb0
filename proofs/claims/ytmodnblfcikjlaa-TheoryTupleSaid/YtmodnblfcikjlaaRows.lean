/-
  NARROWER THAN 'FOR EVERY INPUT', by the rows' own cells (each row's printed sentence says how): TheoryKey: loops · TheoryTuple: loops.
  DERIVED. THE GIVEN ROWS OF THIS SEAT. 2 by the template 'for every input the law returns true; each argument reads behind the call as it read before'; 0 by the template 'total and deterministic' (their statements: YtmodnblfcikjlaaTotals.lean).
  GIVEN WITH THE SEED: the statements are not yours to turn. If you find one false, say at which input.
  Laid BY PROGRAM, IN A SANDBOX (cutbox-rows.mjs): the forced cells as the released guide's own fill.sh prints them over the translation 4e9647a9520b4be3… (all of the seat's roots in one cut). By AI agents, Wed Nov 11 2026. No macro, syntax, notation, axiom, sorry.
-/
import Derived.Test.YtmodnblfcikjlaaChecked
import GoSem.Claim
import GoSem.ClaimJoined
import GoSem.ClaimMapViews
import Derived.JoinedTies
import Derived.KernelRfl
namespace Go.Proofs.Ytmodnblfcikjlaa
/- THE CELL 'sum', in the pinned program and in every row, IS THE sha256 OF THE DUMP (.gsa) THAT YtmodnblfcikjlaaProg.lean LOADS. Nothing in Lean hashes anything: it is a label: what it is worth is what the hold of that sum in a sandbox is worth. -/
noncomputable def Try.pinned : Pinned := { name := "ytmodnblfcikjlaa", sum := "4e9647a9520b4be3bca64b71ad930cfa939286fc7c3aea147add2bf7f72702c9", checked := Try.checked }
namespace Rows
def none {H : Type} : Left H := { results := [], args := [] }

/-- 'sealringlaw09.TheoryKey': WHATEVER THE INPUT: true; the input reads as it did. -/
def theoryKeySpec : ChangeSpec := { name := "theoryKey", fn := fun _ => fun
  | [d] => { results := [.lit (.bool true)], args := [d] }
  | _ => none }
def theoryKeyRow : OpenClaim := { program := "ytmodnblfcikjlaa", sum := "4e9647a9520b4be3bca64b71ad930cfa939286fc7c3aea147add2bf7f72702c9", func := "sealring/sealringlaw09.TheoryKey", spec := "theoryKey", inPlace := ["internal/bytealg.abigen_runtime_cmpstring", "slices.overlaps[sealring/api.Power]"], unfollowed := true, recurses := true, loops := true, apart := false }
def TheoryKeySaid : Prop := theoryKeyRow.holds Try.pinned (OpenSpec.ofChange theoryKeySpec)

/-- ITS FALSE NEIGHBOUR: 'it returns false'. Refute it at one input. -/
def theoryKeyWrong : ChangeSpec := { name := "theoryKey", fn := fun _ => fun
  | [d] => { results := [.lit (.bool false)], args := [d] }
  | _ => none }
def TheoryKeyWrongFalsely : Prop := theoryKeyRow.holds Try.pinned (OpenSpec.ofChange theoryKeyWrong)

/-- 'sealringlaw09.TheoryTuple': WHATEVER THE INPUT: true; the input reads as it did. -/
def theoryTupleSpec : ChangeSpec := { name := "theoryTuple", fn := fun _ => fun
  | [d] => { results := [.lit (.bool true)], args := [d] }
  | _ => none }
def theoryTupleRow : OpenClaim := { program := "ytmodnblfcikjlaa", sum := "4e9647a9520b4be3bca64b71ad930cfa939286fc7c3aea147add2bf7f72702c9", func := "sealring/sealringlaw09.TheoryTuple", spec := "theoryTuple", inPlace := ["internal/bytealg.abigen_runtime_cmpstring", "slices.overlaps[sealring/api.Power]"], unfollowed := true, recurses := true, loops := true, apart := false }
def TheoryTupleSaid : Prop := theoryTupleRow.holds Try.pinned (OpenSpec.ofChange theoryTupleSpec)

/-- ITS FALSE NEIGHBOUR: 'it returns false'. Refute it at one input. -/
def theoryTupleWrong : ChangeSpec := { name := "theoryTuple", fn := fun _ => fun
  | [d] => { results := [.lit (.bool false)], args := [d] }
  | _ => none }
def TheoryTupleWrongFalsely : Prop := theoryTupleRow.holds Try.pinned (OpenSpec.ofChange theoryTupleWrong)

/- THE SECOND FORM. 'bulk': how many values and letters a reading holds, each counted each time it is reached (what is shared counts as often as it is met; a slice's spare places count too). A statement '..UptoSaid' is the law's where the arguments, and the package variables that the reading takes, are together of bulk at most 1048576: NARROWER than '..Said'. Prove '..Said' where nothing that the law and all that it calls make is longer than what came in: it says more and counts as full. Else prove '..UptoSaid'. A law counts once. -/
mutual
def uptoBulk {H : Type} : DataW H → Nat
  | .lit (.string bytes) => bytes.length + 1
  | .lit _ => 1
  | .nil => 1
  | .ptr d => uptoBulk d + 1
  | .slice elems spare => uptoBulkAll elems + uptoBulkAll spare + 1
  | .agg parts => uptoBulkAll parts + 1
  | .iface _ d => uptoBulk d + 1
  | .map entries => uptoBulkEntries entries + 1
  | .held _ => 1
def uptoBulkAll {H : Type} : List (DataW H) → Nat
  | [] => 0
  | d :: r => uptoBulk d + uptoBulkAll r
def uptoBulkEntries {H : Type} : List (Lit × DataW H) → Nat
  | [] => 0
  | x :: r => uptoBulkEntry x + uptoBulkEntries r
def uptoBulkEntry {H : Type} : Lit × DataW H → Nat
  | (.string bytes, d) => bytes.length + uptoBulk d + 1
  | (_, d) => uptoBulk d + 1
 end
def uptoSmall : (H : Type) → List (DataW H) → Bool := fun _ ds => decide (uptoBulkAll ds ≤ 1048576)
def OpenSpec.upto (s : _root_.Go.ChangeSpec) : _root_.Go.OpenSpec := { _root_.Go.OpenSpec.ofChange s with cond := some uptoSmall }

/-- 'sealringlaw09.TheoryKey', WHERE WHAT IT READS IS OF BULK AT MOST 1048576: true; the input reads as it did. -/
def theoryKeyUptoRow : OpenClaim := { program := "ytmodnblfcikjlaa", sum := "4e9647a9520b4be3bca64b71ad930cfa939286fc7c3aea147add2bf7f72702c9", func := "sealring/sealringlaw09.TheoryKey", spec := "theoryKey", inPlace := ["internal/bytealg.abigen_runtime_cmpstring", "slices.overlaps[sealring/api.Power]"], unfollowed := true, recurses := true, loops := true, apart := false, narrowed := true }
def TheoryKeyUptoSaid : Prop := theoryKeyUptoRow.holds Try.pinned (OpenSpec.upto theoryKeySpec)

/-- 'sealringlaw09.TheoryTuple', WHERE WHAT IT READS IS OF BULK AT MOST 1048576: true; the input reads as it did. -/
def theoryTupleUptoRow : OpenClaim := { program := "ytmodnblfcikjlaa", sum := "4e9647a9520b4be3bca64b71ad930cfa939286fc7c3aea147add2bf7f72702c9", func := "sealring/sealringlaw09.TheoryTuple", spec := "theoryTuple", inPlace := ["internal/bytealg.abigen_runtime_cmpstring", "slices.overlaps[sealring/api.Power]"], unfollowed := true, recurses := true, loops := true, apart := false, narrowed := true }
def TheoryTupleUptoSaid : Prop := theoryTupleUptoRow.holds Try.pinned (OpenSpec.upto theoryTupleSpec)

end Rows
end Go.Proofs.Ytmodnblfcikjlaa
