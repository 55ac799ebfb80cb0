/-
  No cell of these rows narrows 'for every input' (looked for: loops, veiled, ifaces, maps, wideKeys, modest, calm, conditions, laid).
  DERIVED. THE GIVEN ROWS OF THIS SEAT. 8 by the template 'for every input the law returns true; each argument reads behind the call as it read before'; 0 by the template 'total and deterministic' (their statements: YtjlkbjmclajlcaaTotals.lean).
  GIVEN WITH THE SEED: the statements are not yours to turn. If you find one false, say at which input.
  Laid BY PROGRAM, IN A SANDBOX (cutbox-rows.mjs): the forced cells as the released guide's own fill.sh prints them over the translation b2b6da1e7b05a20d… (all of the seat's roots in one cut). By AI agents, Wed Nov 11 2026. No macro, syntax, notation, axiom, sorry.
-/
import Derived.Test.YtjlkbjmclajlcaaChecked
import GoSem.Claim
import GoSem.ClaimJoined
import GoSem.ClaimMapViews
import Derived.JoinedTies
import Derived.KernelRfl
namespace Go.Proofs.Ytjlkbjmclajlcaa
/- THE CELL 'sum', in the pinned program and in every row, IS THE sha256 OF THE DUMP (.gsa) THAT YtjlkbjmclajlcaaProg.lean LOADS. Nothing in Lean hashes anything: it is a label: what it is worth is what the hold of that sum in a sandbox is worth. -/
noncomputable def Try.pinned : Pinned := { name := "ytjlkbjmclajlcaa", sum := "b2b6da1e7b05a20d800181ab5a209b8da27d5ce5dff5f158fc335330f1ec4c3b", checked := Try.checked }
namespace Rows
def none {H : Type} : Left H := { results := [], args := [] }

/-- 'sealringlaw16.WirePut': WHATEVER THE INPUT: true; the input reads as it did. -/
def wirePutSpec : ChangeSpec := { name := "wirePut", fn := fun _ => fun
  | [d1, d2] => { results := [.lit (.bool true)], args := [d1, d2] }
  | _ => none }
def wirePutRow : OpenClaim := { program := "ytjlkbjmclajlcaa", sum := "b2b6da1e7b05a20d800181ab5a209b8da27d5ce5dff5f158fc335330f1ec4c3b", func := "sealring/sealringlaw16.WirePut", spec := "wirePut", apart := false }
def WirePutSaid : Prop := wirePutRow.holds Try.pinned (OpenSpec.ofChange wirePutSpec)

/-- ITS FALSE NEIGHBOUR: 'it returns false'. Refute it at one input. -/
def wirePutWrong : ChangeSpec := { name := "wirePut", fn := fun _ => fun
  | [d1, d2] => { results := [.lit (.bool false)], args := [d1, d2] }
  | _ => none }
def WirePutWrongFalsely : Prop := wirePutRow.holds Try.pinned (OpenSpec.ofChange wirePutWrong)

/-- 'sealringlaw16.WireGet': WHATEVER THE INPUT: true; the input reads as it did. -/
def wireGetSpec : ChangeSpec := { name := "wireGet", fn := fun _ => fun
  | [d] => { results := [.lit (.bool true)], args := [d] }
  | _ => none }
def wireGetRow : OpenClaim := { program := "ytjlkbjmclajlcaa", sum := "b2b6da1e7b05a20d800181ab5a209b8da27d5ce5dff5f158fc335330f1ec4c3b", func := "sealring/sealringlaw16.WireGet", spec := "wireGet", apart := false }
def WireGetSaid : Prop := wireGetRow.holds Try.pinned (OpenSpec.ofChange wireGetSpec)

/-- ITS FALSE NEIGHBOUR: 'it returns false'. Refute it at one input. -/
def wireGetWrong : ChangeSpec := { name := "wireGet", fn := fun _ => fun
  | [d] => { results := [.lit (.bool false)], args := [d] }
  | _ => none }
def WireGetWrongFalsely : Prop := wireGetRow.holds Try.pinned (OpenSpec.ofChange wireGetWrong)

/-- 'sealringlaw16.WireGetString': WHATEVER THE INPUT: true; the input reads as it did. -/
def wireGetStringSpec : ChangeSpec := { name := "wireGetString", fn := fun _ => fun
  | [d] => { results := [.lit (.bool true)], args := [d] }
  | _ => none }
def wireGetStringRow : OpenClaim := { program := "ytjlkbjmclajlcaa", sum := "b2b6da1e7b05a20d800181ab5a209b8da27d5ce5dff5f158fc335330f1ec4c3b", func := "sealring/sealringlaw16.WireGetString", spec := "wireGetString", apart := false }
def WireGetStringSaid : Prop := wireGetStringRow.holds Try.pinned (OpenSpec.ofChange wireGetStringSpec)

/-- ITS FALSE NEIGHBOUR: 'it returns false'. Refute it at one input. -/
def wireGetStringWrong : ChangeSpec := { name := "wireGetString", fn := fun _ => fun
  | [d] => { results := [.lit (.bool false)], args := [d] }
  | _ => none }
def WireGetStringWrongFalsely : Prop := wireGetStringRow.holds Try.pinned (OpenSpec.ofChange wireGetStringWrong)

/-- 'sealringlaw16.WireSeal': WHATEVER THE INPUT: true; the input reads as it did. -/
def wireSealSpec : ChangeSpec := { name := "wireSeal", fn := fun _ => fun
  | [d] => { results := [.lit (.bool true)], args := [d] }
  | _ => none }
def wireSealRow : OpenClaim := { program := "ytjlkbjmclajlcaa", sum := "b2b6da1e7b05a20d800181ab5a209b8da27d5ce5dff5f158fc335330f1ec4c3b", func := "sealring/sealringlaw16.WireSeal", spec := "wireSeal", apart := false }
def WireSealSaid : Prop := wireSealRow.holds Try.pinned (OpenSpec.ofChange wireSealSpec)

/-- ITS FALSE NEIGHBOUR: 'it returns false'. Refute it at one input. -/
def wireSealWrong : ChangeSpec := { name := "wireSeal", fn := fun _ => fun
  | [d] => { results := [.lit (.bool false)], args := [d] }
  | _ => none }
def WireSealWrongFalsely : Prop := wireSealRow.holds Try.pinned (OpenSpec.ofChange wireSealWrong)

/-- 'sealringlaw16.WireDetects': WHATEVER THE INPUT: true; the input reads as it did. -/
def wireDetectsSpec : ChangeSpec := { name := "wireDetects", fn := fun _ => fun
  | [d1, d2, d3] => { results := [.lit (.bool true)], args := [d1, d2, d3] }
  | _ => none }
def wireDetectsRow : OpenClaim := { program := "ytjlkbjmclajlcaa", sum := "b2b6da1e7b05a20d800181ab5a209b8da27d5ce5dff5f158fc335330f1ec4c3b", func := "sealring/sealringlaw16.WireDetects", spec := "wireDetects", apart := false }
def WireDetectsSaid : Prop := wireDetectsRow.holds Try.pinned (OpenSpec.ofChange wireDetectsSpec)

/-- ITS FALSE NEIGHBOUR: 'it returns false'. Refute it at one input. -/
def wireDetectsWrong : ChangeSpec := { name := "wireDetects", fn := fun _ => fun
  | [d1, d2, d3] => { results := [.lit (.bool false)], args := [d1, d2, d3] }
  | _ => none }
def WireDetectsWrongFalsely : Prop := wireDetectsRow.holds Try.pinned (OpenSpec.ofChange wireDetectsWrong)

/-- 'sealringlaw16.WirePrefix': WHATEVER THE INPUT: true; the input reads as it did. -/
def wirePrefixSpec : ChangeSpec := { name := "wirePrefix", fn := fun _ => fun
  | [d1, d2] => { results := [.lit (.bool true)], args := [d1, d2] }
  | _ => none }
def wirePrefixRow : OpenClaim := { program := "ytjlkbjmclajlcaa", sum := "b2b6da1e7b05a20d800181ab5a209b8da27d5ce5dff5f158fc335330f1ec4c3b", func := "sealring/sealringlaw16.WirePrefix", spec := "wirePrefix", inPlace := ["internal/abi.NoEscape"], apart := false }
def WirePrefixSaid : Prop := wirePrefixRow.holds Try.pinned (OpenSpec.ofChange wirePrefixSpec)

/-- ITS FALSE NEIGHBOUR: 'it returns false'. Refute it at one input. -/
def wirePrefixWrong : ChangeSpec := { name := "wirePrefix", fn := fun _ => fun
  | [d1, d2] => { results := [.lit (.bool false)], args := [d1, d2] }
  | _ => none }
def WirePrefixWrongFalsely : Prop := wirePrefixRow.holds Try.pinned (OpenSpec.ofChange wirePrefixWrong)

/-- 'sealringlaw16.WireGetList': WHATEVER THE INPUT: true; the input reads as it did. -/
def wireGetListSpec : ChangeSpec := { name := "wireGetList", fn := fun _ => fun
  | [d] => { results := [.lit (.bool true)], args := [d] }
  | _ => none }
def wireGetListRow : OpenClaim := { program := "ytjlkbjmclajlcaa", sum := "b2b6da1e7b05a20d800181ab5a209b8da27d5ce5dff5f158fc335330f1ec4c3b", func := "sealring/sealringlaw16.WireGetList", spec := "wireGetList", inPlace := ["internal/abi.NoEscape"], apart := false }
def WireGetListSaid : Prop := wireGetListRow.holds Try.pinned (OpenSpec.ofChange wireGetListSpec)

/-- ITS FALSE NEIGHBOUR: 'it returns false'. Refute it at one input. -/
def wireGetListWrong : ChangeSpec := { name := "wireGetList", fn := fun _ => fun
  | [d] => { results := [.lit (.bool false)], args := [d] }
  | _ => none }
def WireGetListWrongFalsely : Prop := wireGetListRow.holds Try.pinned (OpenSpec.ofChange wireGetListWrong)

/-- 'sealringlaw16.WireStrings': WHATEVER THE INPUT: true; the input reads as it did. -/
def wireStringsSpec : ChangeSpec := { name := "wireStrings", fn := fun _ => fun
  | [d1, d2] => { results := [.lit (.bool true)], args := [d1, d2] }
  | _ => none }
def wireStringsRow : OpenClaim := { program := "ytjlkbjmclajlcaa", sum := "b2b6da1e7b05a20d800181ab5a209b8da27d5ce5dff5f158fc335330f1ec4c3b", func := "sealring/sealringlaw16.WireStrings", spec := "wireStrings", inPlace := ["internal/abi.NoEscape"], apart := false }
def WireStringsSaid : Prop := wireStringsRow.holds Try.pinned (OpenSpec.ofChange wireStringsSpec)

/-- ITS FALSE NEIGHBOUR: 'it returns false'. Refute it at one input. -/
def wireStringsWrong : ChangeSpec := { name := "wireStrings", fn := fun _ => fun
  | [d1, d2] => { results := [.lit (.bool false)], args := [d1, d2] }
  | _ => none }
def WireStringsWrongFalsely : Prop := wireStringsRow.holds Try.pinned (OpenSpec.ofChange wireStringsWrong)

/- THE SECOND FORM. 'bulk': how many values and letters a reading holds, each counted each time it is reached (what is shared counts as often as it is met; a slice's spare places count too). A statement '..UptoSaid' is the law's where the arguments, and the package variables that the reading takes, are together of bulk at most 1048576: NARROWER than '..Said'. Prove '..Said' where nothing that the law and all that it calls make is longer than what came in: it says more and counts as full. Else prove '..UptoSaid'. A law counts once. -/
mutual
def uptoBulk {H : Type} : DataW H → Nat
  | .lit (.string bytes) => bytes.length + 1
  | .lit _ => 1
  | .nil => 1
  | .ptr d => uptoBulk d + 1
  | .slice elems spare => uptoBulkAll elems + uptoBulkAll spare + 1
  | .agg parts => uptoBulkAll parts + 1
  | .iface _ d => uptoBulk d + 1
  | .map entries => uptoBulkEntries entries + 1
  | .held _ => 1
def uptoBulkAll {H : Type} : List (DataW H) → Nat
  | [] => 0
  | d :: r => uptoBulk d + uptoBulkAll r
def uptoBulkEntries {H : Type} : List (Lit × DataW H) → Nat
  | [] => 0
  | x :: r => uptoBulkEntry x + uptoBulkEntries r
def uptoBulkEntry {H : Type} : Lit × DataW H → Nat
  | (.string bytes, d) => bytes.length + uptoBulk d + 1
  | (_, d) => uptoBulk d + 1
 end
def uptoSmall : (H : Type) → List (DataW H) → Bool := fun _ ds => decide (uptoBulkAll ds ≤ 1048576)
def OpenSpec.upto (s : _root_.Go.ChangeSpec) : _root_.Go.OpenSpec := { _root_.Go.OpenSpec.ofChange s with cond := some uptoSmall }

/-- 'sealringlaw16.WirePut', WHERE WHAT IT READS IS OF BULK AT MOST 1048576: true; the input reads as it did. -/
def wirePutUptoRow : OpenClaim := { program := "ytjlkbjmclajlcaa", sum := "b2b6da1e7b05a20d800181ab5a209b8da27d5ce5dff5f158fc335330f1ec4c3b", func := "sealring/sealringlaw16.WirePut", spec := "wirePut", apart := false, narrowed := true }
def WirePutUptoSaid : Prop := wirePutUptoRow.holds Try.pinned (OpenSpec.upto wirePutSpec)

/-- 'sealringlaw16.WireGet', WHERE WHAT IT READS IS OF BULK AT MOST 1048576: true; the input reads as it did. -/
def wireGetUptoRow : OpenClaim := { program := "ytjlkbjmclajlcaa", sum := "b2b6da1e7b05a20d800181ab5a209b8da27d5ce5dff5f158fc335330f1ec4c3b", func := "sealring/sealringlaw16.WireGet", spec := "wireGet", apart := false, narrowed := true }
def WireGetUptoSaid : Prop := wireGetUptoRow.holds Try.pinned (OpenSpec.upto wireGetSpec)

/-- 'sealringlaw16.WireGetString', WHERE WHAT IT READS IS OF BULK AT MOST 1048576: true; the input reads as it did. -/
def wireGetStringUptoRow : OpenClaim := { program := "ytjlkbjmclajlcaa", sum := "b2b6da1e7b05a20d800181ab5a209b8da27d5ce5dff5f158fc335330f1ec4c3b", func := "sealring/sealringlaw16.WireGetString", spec := "wireGetString", apart := false, narrowed := true }
def WireGetStringUptoSaid : Prop := wireGetStringUptoRow.holds Try.pinned (OpenSpec.upto wireGetStringSpec)

/-- 'sealringlaw16.WireSeal', WHERE WHAT IT READS IS OF BULK AT MOST 1048576: true; the input reads as it did. -/
def wireSealUptoRow : OpenClaim := { program := "ytjlkbjmclajlcaa", sum := "b2b6da1e7b05a20d800181ab5a209b8da27d5ce5dff5f158fc335330f1ec4c3b", func := "sealring/sealringlaw16.WireSeal", spec := "wireSeal", apart := false, narrowed := true }
def WireSealUptoSaid : Prop := wireSealUptoRow.holds Try.pinned (OpenSpec.upto wireSealSpec)

/-- 'sealringlaw16.WireDetects', WHERE WHAT IT READS IS OF BULK AT MOST 1048576: true; the input reads as it did. -/
def wireDetectsUptoRow : OpenClaim := { program := "ytjlkbjmclajlcaa", sum := "b2b6da1e7b05a20d800181ab5a209b8da27d5ce5dff5f158fc335330f1ec4c3b", func := "sealring/sealringlaw16.WireDetects", spec := "wireDetects", apart := false, narrowed := true }
def WireDetectsUptoSaid : Prop := wireDetectsUptoRow.holds Try.pinned (OpenSpec.upto wireDetectsSpec)

/-- 'sealringlaw16.WirePrefix', WHERE WHAT IT READS IS OF BULK AT MOST 1048576: true; the input reads as it did. -/
def wirePrefixUptoRow : OpenClaim := { program := "ytjlkbjmclajlcaa", sum := "b2b6da1e7b05a20d800181ab5a209b8da27d5ce5dff5f158fc335330f1ec4c3b", func := "sealring/sealringlaw16.WirePrefix", spec := "wirePrefix", inPlace := ["internal/abi.NoEscape"], apart := false, narrowed := true }
def WirePrefixUptoSaid : Prop := wirePrefixUptoRow.holds Try.pinned (OpenSpec.upto wirePrefixSpec)

/-- 'sealringlaw16.WireGetList', WHERE WHAT IT READS IS OF BULK AT MOST 1048576: true; the input reads as it did. -/
def wireGetListUptoRow : OpenClaim := { program := "ytjlkbjmclajlcaa", sum := "b2b6da1e7b05a20d800181ab5a209b8da27d5ce5dff5f158fc335330f1ec4c3b", func := "sealring/sealringlaw16.WireGetList", spec := "wireGetList", inPlace := ["internal/abi.NoEscape"], apart := false, narrowed := true }
def WireGetListUptoSaid : Prop := wireGetListUptoRow.holds Try.pinned (OpenSpec.upto wireGetListSpec)

/-- 'sealringlaw16.WireStrings', WHERE WHAT IT READS IS OF BULK AT MOST 1048576: true; the input reads as it did. -/
def wireStringsUptoRow : OpenClaim := { program := "ytjlkbjmclajlcaa", sum := "b2b6da1e7b05a20d800181ab5a209b8da27d5ce5dff5f158fc335330f1ec4c3b", func := "sealring/sealringlaw16.WireStrings", spec := "wireStrings", inPlace := ["internal/abi.NoEscape"], apart := false, narrowed := true }
def WireStringsUptoSaid : Prop := wireStringsUptoRow.holds Try.pinned (OpenSpec.upto wireStringsSpec)

end Rows
end Go.Proofs.Ytjlkbjmclajlcaa
