/-
  NARROWER THAN 'FOR EVERY INPUT', by the rows' own cells (each row's printed sentence says how): TheoryNormal: loops · TheoryEqual: loops · TheoryValid: loops · TheoryRules: loops.
  DERIVED. THE GIVEN ROWS OF THIS SEAT. 4 by the template 'for every input the law returns true; each argument reads behind the call as it read before'; 0 by the template 'total and deterministic' (their statements: YtmodnblfcikjlaaGreatTotals.lean).
  GIVEN WITH THE SEED: the statements are not yours to turn. If you find one false, say at which input.
  Laid BY PROGRAM, IN A SANDBOX (cutbox-rows.mjs): the forced cells as the released guide's own fill.sh prints them over the translation c7858ebacdedf27b… (all of the seat's roots in one cut). By AI agents, Wed Nov 11 2026. No macro, syntax, notation, axiom, sorry.
-/
import Derived.Test.YtmodnblfcikjlaaGreatChecked
import GoSem.Claim
import GoSem.ClaimJoined
import GoSem.ClaimMapViews
import Derived.JoinedTies
import Derived.KernelRfl
namespace Go.Proofs.YtmodnblfcikjlaaGreat
/- THE CELL 'sum', in the pinned program and in every row, IS THE sha256 OF THE DUMP (.gsa) THAT YtmodnblfcikjlaaGreatProg.lean LOADS. Nothing in Lean hashes anything: it is a label: what it is worth is what the hold of that sum in a sandbox is worth. -/
noncomputable def Tryz.pinned : Pinned := { name := "ytmodnblfcikjlaagreat", sum := "c7858ebacdedf27b2cb18350ec6171b0028726d8fa4ef225b66c4d9637f4dc02", checked := Tryz.checked }
namespace Rows
def none {H : Type} : Left H := { results := [], args := [] }

/-- 'sealringlaw09.TheoryNormal': WHATEVER THE INPUT: true; the input reads as it did. -/
def theoryNormalSpec : ChangeSpec := { name := "theoryNormal", fn := fun _ => fun
  | [d] => { results := [.lit (.bool true)], args := [d] }
  | _ => none }
def theoryNormalRow : OpenClaim := { program := "ytmodnblfcikjlaagreat", sum := "c7858ebacdedf27b2cb18350ec6171b0028726d8fa4ef225b66c4d9637f4dc02", func := "sealring/sealringlaw09.TheoryNormal", spec := "theoryNormal", inPlace := ["internal/bytealg.abigen_runtime_cmpstring", "slices.overlaps[sealring/api.Power]"], unfollowed := true, recurses := true, loops := true, plainKeys := false, apart := false }
def TheoryNormalSaid : Prop := theoryNormalRow.holds Tryz.pinned (OpenSpec.ofChange theoryNormalSpec)

/-- ITS FALSE NEIGHBOUR: 'it returns false'. Refute it at one input. -/
def theoryNormalWrong : ChangeSpec := { name := "theoryNormal", fn := fun _ => fun
  | [d] => { results := [.lit (.bool false)], args := [d] }
  | _ => none }
def TheoryNormalWrongFalsely : Prop := theoryNormalRow.holds Tryz.pinned (OpenSpec.ofChange theoryNormalWrong)

/-- 'sealringlaw09.TheoryEqual': WHATEVER THE INPUT: true; the input reads as it did. -/
def theoryEqualSpec : ChangeSpec := { name := "theoryEqual", fn := fun _ => fun
  | [d1, d2, d3] => { results := [.lit (.bool true)], args := [d1, d2, d3] }
  | _ => none }
def theoryEqualRow : OpenClaim := { program := "ytmodnblfcikjlaagreat", sum := "c7858ebacdedf27b2cb18350ec6171b0028726d8fa4ef225b66c4d9637f4dc02", func := "sealring/sealringlaw09.TheoryEqual", spec := "theoryEqual", inPlace := ["internal/bytealg.abigen_runtime_cmpstring", "slices.overlaps[sealring/api.Power]"], unfollowed := true, recurses := true, loops := true, plainKeys := false, apart := false }
def TheoryEqualSaid : Prop := theoryEqualRow.holds Tryz.pinned (OpenSpec.ofChange theoryEqualSpec)

/-- ITS FALSE NEIGHBOUR: 'it returns false'. Refute it at one input. -/
def theoryEqualWrong : ChangeSpec := { name := "theoryEqual", fn := fun _ => fun
  | [d1, d2, d3] => { results := [.lit (.bool false)], args := [d1, d2, d3] }
  | _ => none }
def TheoryEqualWrongFalsely : Prop := theoryEqualRow.holds Tryz.pinned (OpenSpec.ofChange theoryEqualWrong)

/-- 'sealringlaw09.TheoryValid': WHATEVER THE INPUT: true; the input reads as it did. -/
def theoryValidSpec : ChangeSpec := { name := "theoryValid", fn := fun _ => fun
  | [d] => { results := [.lit (.bool true)], args := [d] }
  | _ => none }
def theoryValidRow : OpenClaim := { program := "ytmodnblfcikjlaagreat", sum := "c7858ebacdedf27b2cb18350ec6171b0028726d8fa4ef225b66c4d9637f4dc02", func := "sealring/sealringlaw09.TheoryValid", spec := "theoryValid", inPlace := ["internal/bytealg.abigen_runtime_cmpstring", "slices.overlaps[sealring/api.Power]"], unfollowed := true, recurses := true, loops := true, plainKeys := false, apart := false }
def TheoryValidSaid : Prop := theoryValidRow.holds Tryz.pinned (OpenSpec.ofChange theoryValidSpec)

/-- ITS FALSE NEIGHBOUR: 'it returns false'. Refute it at one input. -/
def theoryValidWrong : ChangeSpec := { name := "theoryValid", fn := fun _ => fun
  | [d] => { results := [.lit (.bool false)], args := [d] }
  | _ => none }
def TheoryValidWrongFalsely : Prop := theoryValidRow.holds Tryz.pinned (OpenSpec.ofChange theoryValidWrong)

/-- 'sealringlaw09.TheoryRules': WHATEVER THE INPUT: true; the input reads as it did. -/
def theoryRulesSpec : ChangeSpec := { name := "theoryRules", fn := fun _ => fun
  | [d] => { results := [.lit (.bool true)], args := [d] }
  | _ => none }
def theoryRulesRow : OpenClaim := { program := "ytmodnblfcikjlaagreat", sum := "c7858ebacdedf27b2cb18350ec6171b0028726d8fa4ef225b66c4d9637f4dc02", func := "sealring/sealringlaw09.TheoryRules", spec := "theoryRules", inPlace := ["internal/bytealg.abigen_runtime_cmpstring", "slices.overlaps[sealring/api.Power]"], unfollowed := true, recurses := true, loops := true, plainKeys := false, apart := false }
def TheoryRulesSaid : Prop := theoryRulesRow.holds Tryz.pinned (OpenSpec.ofChange theoryRulesSpec)

/-- ITS FALSE NEIGHBOUR: 'it returns false'. Refute it at one input. -/
def theoryRulesWrong : ChangeSpec := { name := "theoryRules", fn := fun _ => fun
  | [d] => { results := [.lit (.bool false)], args := [d] }
  | _ => none }
def TheoryRulesWrongFalsely : Prop := theoryRulesRow.holds Tryz.pinned (OpenSpec.ofChange theoryRulesWrong)

/- THE SECOND FORM. 'bulk': how many values and letters a reading holds, each counted each time it is reached (what is shared counts as often as it is met; a slice's spare places count too). A statement '..UptoSaid' is the law's where the arguments, and the package variables that the reading takes, are together of bulk at most 1048576: NARROWER than '..Said'. Prove '..Said' where nothing that the law and all that it calls make is longer than what came in: it says more and counts as full. Else prove '..UptoSaid'. A law counts once. -/
mutual
def uptoBulk {H : Type} : DataW H → Nat
  | .lit (.string bytes) => bytes.length + 1
  | .lit _ => 1
  | .nil => 1
  | .ptr d => uptoBulk d + 1
  | .slice elems spare => uptoBulkAll elems + uptoBulkAll spare + 1
  | .agg parts => uptoBulkAll parts + 1
  | .iface _ d => uptoBulk d + 1
  | .map entries => uptoBulkEntries entries + 1
  | .held _ => 1
def uptoBulkAll {H : Type} : List (DataW H) → Nat
  | [] => 0
  | d :: r => uptoBulk d + uptoBulkAll r
def uptoBulkEntries {H : Type} : List (Lit × DataW H) → Nat
  | [] => 0
  | x :: r => uptoBulkEntry x + uptoBulkEntries r
def uptoBulkEntry {H : Type} : Lit × DataW H → Nat
  | (.string bytes, d) => bytes.length + uptoBulk d + 1
  | (_, d) => uptoBulk d + 1
 end
def uptoSmall : (H : Type) → List (DataW H) → Bool := fun _ ds => decide (uptoBulkAll ds ≤ 1048576)
def OpenSpec.upto (s : _root_.Go.ChangeSpec) : _root_.Go.OpenSpec := { _root_.Go.OpenSpec.ofChange s with cond := some uptoSmall }

/-- 'sealringlaw09.TheoryNormal', WHERE WHAT IT READS IS OF BULK AT MOST 1048576: true; the input reads as it did. -/
def theoryNormalUptoRow : OpenClaim := { program := "ytmodnblfcikjlaagreat", sum := "c7858ebacdedf27b2cb18350ec6171b0028726d8fa4ef225b66c4d9637f4dc02", func := "sealring/sealringlaw09.TheoryNormal", spec := "theoryNormal", inPlace := ["internal/bytealg.abigen_runtime_cmpstring", "slices.overlaps[sealring/api.Power]"], unfollowed := true, recurses := true, loops := true, plainKeys := false, apart := false, narrowed := true }
def TheoryNormalUptoSaid : Prop := theoryNormalUptoRow.holds Tryz.pinned (OpenSpec.upto theoryNormalSpec)

/-- 'sealringlaw09.TheoryEqual', WHERE WHAT IT READS IS OF BULK AT MOST 1048576: true; the input reads as it did. -/
def theoryEqualUptoRow : OpenClaim := { program := "ytmodnblfcikjlaagreat", sum := "c7858ebacdedf27b2cb18350ec6171b0028726d8fa4ef225b66c4d9637f4dc02", func := "sealring/sealringlaw09.TheoryEqual", spec := "theoryEqual", inPlace := ["internal/bytealg.abigen_runtime_cmpstring", "slices.overlaps[sealring/api.Power]"], unfollowed := true, recurses := true, loops := true, plainKeys := false, apart := false, narrowed := true }
def TheoryEqualUptoSaid : Prop := theoryEqualUptoRow.holds Tryz.pinned (OpenSpec.upto theoryEqualSpec)

/-- 'sealringlaw09.TheoryValid', WHERE WHAT IT READS IS OF BULK AT MOST 1048576: true; the input reads as it did. -/
def theoryValidUptoRow : OpenClaim := { program := "ytmodnblfcikjlaagreat", sum := "c7858ebacdedf27b2cb18350ec6171b0028726d8fa4ef225b66c4d9637f4dc02", func := "sealring/sealringlaw09.TheoryValid", spec := "theoryValid", inPlace := ["internal/bytealg.abigen_runtime_cmpstring", "slices.overlaps[sealring/api.Power]"], unfollowed := true, recurses := true, loops := true, plainKeys := false, apart := false, narrowed := true }
def TheoryValidUptoSaid : Prop := theoryValidUptoRow.holds Tryz.pinned (OpenSpec.upto theoryValidSpec)

/-- 'sealringlaw09.TheoryRules', WHERE WHAT IT READS IS OF BULK AT MOST 1048576: true; the input reads as it did. -/
def theoryRulesUptoRow : OpenClaim := { program := "ytmodnblfcikjlaagreat", sum := "c7858ebacdedf27b2cb18350ec6171b0028726d8fa4ef225b66c4d9637f4dc02", func := "sealring/sealringlaw09.TheoryRules", spec := "theoryRules", inPlace := ["internal/bytealg.abigen_runtime_cmpstring", "slices.overlaps[sealring/api.Power]"], unfollowed := true, recurses := true, loops := true, plainKeys := false, apart := false, narrowed := true }
def TheoryRulesUptoSaid : Prop := theoryRulesUptoRow.holds Tryz.pinned (OpenSpec.upto theoryRulesSpec)

end Rows
end Go.Proofs.YtmodnblfcikjlaaGreat
