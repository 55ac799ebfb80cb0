/-
  NARROWER THAN 'FOR EVERY INPUT', by the rows' own cells (each row's printed sentence says how): NetworkSpoils: loops · NetworkSends: loops · NetworkScript: loops · NetworkCarries: loops · NetworkOnce: loops · NetworkWaits: loops · NetworkRepeats: loops.
  DERIVED. THE GIVEN ROWS OF THIS SEAT. 7 by the template 'for every input the law returns true; each argument reads behind the call as it read before'; 0 by the template 'total and deterministic' (their statements: YtckmkimhkhilgaaGreatTotals.lean).
  GIVEN WITH THE SEED: the statements are not yours to turn. If you find one false, say at which input.
  Laid BY PROGRAM, IN A SANDBOX (cutbox-rows.mjs): the forced cells as the released guide's own fill.sh prints them over the translation a0d51fc19f904f46… (all of the seat's roots in one cut). By AI agents, Wed Nov 11 2026. No macro, syntax, notation, axiom, sorry.
-/
import Derived.Test.YtckmkimhkhilgaaGreatChecked
import GoSem.Claim
import GoSem.ClaimJoined
import GoSem.ClaimMapViews
import Derived.JoinedTies
import Derived.KernelRfl
namespace Go.Proofs.YtckmkimhkhilgaaGreat
/- THE CELL 'sum', in the pinned program and in every row, IS THE sha256 OF THE DUMP (.gsa) THAT YtckmkimhkhilgaaGreatProg.lean LOADS. Nothing in Lean hashes anything: it is a label: what it is worth is what the hold of that sum in a sandbox is worth. -/
noncomputable def Tryz.pinned : Pinned := { name := "ytckmkimhkhilgaagreat", sum := "a0d51fc19f904f469c9d45d8e332160572c6d743e800c079675b7b41ef2d0528", checked := Tryz.checked }
namespace Rows
def none {H : Type} : Left H := { results := [], args := [] }

/-- 'sealringlaw31.NetworkSpoils': WHATEVER THE INPUT: true; the input reads as it did. -/
def networkSpoilsSpec : ChangeSpec := { name := "networkSpoils", fn := fun _ => fun
  | [d1, d2] => { results := [.lit (.bool true)], args := [d1, d2] }
  | _ => none }
def networkSpoilsRow : OpenClaim := { program := "ytckmkimhkhilgaagreat", sum := "a0d51fc19f904f469c9d45d8e332160572c6d743e800c079675b7b41ef2d0528", func := "sealring/sealringlaw31.NetworkSpoils", spec := "networkSpoils", inPlace := ["internal/bytealg.abigen_runtime_cmpstring", "slices.overlaps[sealring/api.Power]"], unfollowed := true, recurses := true, loops := true, apart := false }
def NetworkSpoilsSaid : Prop := networkSpoilsRow.holds Tryz.pinned (OpenSpec.ofChange networkSpoilsSpec)

/-- ITS FALSE NEIGHBOUR: 'it returns false'. Refute it at one input. -/
def networkSpoilsWrong : ChangeSpec := { name := "networkSpoils", fn := fun _ => fun
  | [d1, d2] => { results := [.lit (.bool false)], args := [d1, d2] }
  | _ => none }
def NetworkSpoilsWrongFalsely : Prop := networkSpoilsRow.holds Tryz.pinned (OpenSpec.ofChange networkSpoilsWrong)

/-- 'sealringlaw31.NetworkSends': WHATEVER THE INPUT: true; the input reads as it did. -/
def networkSendsSpec : ChangeSpec := { name := "networkSends", fn := fun _ => fun
  | [d] => { results := [.lit (.bool true)], args := [d] }
  | _ => none }
def networkSendsRow : OpenClaim := { program := "ytckmkimhkhilgaagreat", sum := "a0d51fc19f904f469c9d45d8e332160572c6d743e800c079675b7b41ef2d0528", func := "sealring/sealringlaw31.NetworkSends", spec := "networkSends", inPlace := ["internal/bytealg.abigen_runtime_cmpstring", "slices.overlaps[sealring/api.Power]"], unfollowed := true, recurses := true, loops := true, apart := false }
def NetworkSendsSaid : Prop := networkSendsRow.holds Tryz.pinned (OpenSpec.ofChange networkSendsSpec)

/-- ITS FALSE NEIGHBOUR: 'it returns false'. Refute it at one input. -/
def networkSendsWrong : ChangeSpec := { name := "networkSends", fn := fun _ => fun
  | [d] => { results := [.lit (.bool false)], args := [d] }
  | _ => none }
def NetworkSendsWrongFalsely : Prop := networkSendsRow.holds Tryz.pinned (OpenSpec.ofChange networkSendsWrong)

/-- 'sealringlaw31.NetworkScript': WHATEVER THE INPUT: true; the input reads as it did. -/
def networkScriptSpec : ChangeSpec := { name := "networkScript", fn := fun _ => fun
  | [d1, d2] => { results := [.lit (.bool true)], args := [d1, d2] }
  | _ => none }
def networkScriptRow : OpenClaim := { program := "ytckmkimhkhilgaagreat", sum := "a0d51fc19f904f469c9d45d8e332160572c6d743e800c079675b7b41ef2d0528", func := "sealring/sealringlaw31.NetworkScript", spec := "networkScript", inPlace := ["internal/bytealg.abigen_runtime_cmpstring", "slices.overlaps[sealring/api.Power]"], unfollowed := true, recurses := true, loops := true, apart := false }
def NetworkScriptSaid : Prop := networkScriptRow.holds Tryz.pinned (OpenSpec.ofChange networkScriptSpec)

/-- ITS FALSE NEIGHBOUR: 'it returns false'. Refute it at one input. -/
def networkScriptWrong : ChangeSpec := { name := "networkScript", fn := fun _ => fun
  | [d1, d2] => { results := [.lit (.bool false)], args := [d1, d2] }
  | _ => none }
def NetworkScriptWrongFalsely : Prop := networkScriptRow.holds Tryz.pinned (OpenSpec.ofChange networkScriptWrong)

/-- 'sealringlaw31.NetworkCarries': WHATEVER THE INPUT: true; the input reads as it did. -/
def networkCarriesSpec : ChangeSpec := { name := "networkCarries", fn := fun _ => fun
  | [d1, d2, d3] => { results := [.lit (.bool true)], args := [d1, d2, d3] }
  | _ => none }
def networkCarriesRow : OpenClaim := { program := "ytckmkimhkhilgaagreat", sum := "a0d51fc19f904f469c9d45d8e332160572c6d743e800c079675b7b41ef2d0528", func := "sealring/sealringlaw31.NetworkCarries", spec := "networkCarries", inPlace := ["internal/bytealg.abigen_runtime_cmpstring", "slices.overlaps[sealring/api.Power]"], unfollowed := true, recurses := true, loops := true, apart := false }
def NetworkCarriesSaid : Prop := networkCarriesRow.holds Tryz.pinned (OpenSpec.ofChange networkCarriesSpec)

/-- ITS FALSE NEIGHBOUR: 'it returns false'. Refute it at one input. -/
def networkCarriesWrong : ChangeSpec := { name := "networkCarries", fn := fun _ => fun
  | [d1, d2, d3] => { results := [.lit (.bool false)], args := [d1, d2, d3] }
  | _ => none }
def NetworkCarriesWrongFalsely : Prop := networkCarriesRow.holds Tryz.pinned (OpenSpec.ofChange networkCarriesWrong)

/-- 'sealringlaw31.NetworkOnce': WHATEVER THE INPUT: true; the input reads as it did. -/
def networkOnceSpec : ChangeSpec := { name := "networkOnce", fn := fun _ => fun
  | [d1, d2, d3] => { results := [.lit (.bool true)], args := [d1, d2, d3] }
  | _ => none }
def networkOnceRow : OpenClaim := { program := "ytckmkimhkhilgaagreat", sum := "a0d51fc19f904f469c9d45d8e332160572c6d743e800c079675b7b41ef2d0528", func := "sealring/sealringlaw31.NetworkOnce", spec := "networkOnce", inPlace := ["internal/bytealg.abigen_runtime_cmpstring", "slices.overlaps[sealring/api.Power]"], unfollowed := true, recurses := true, loops := true, apart := false }
def NetworkOnceSaid : Prop := networkOnceRow.holds Tryz.pinned (OpenSpec.ofChange networkOnceSpec)

/-- ITS FALSE NEIGHBOUR: 'it returns false'. Refute it at one input. -/
def networkOnceWrong : ChangeSpec := { name := "networkOnce", fn := fun _ => fun
  | [d1, d2, d3] => { results := [.lit (.bool false)], args := [d1, d2, d3] }
  | _ => none }
def NetworkOnceWrongFalsely : Prop := networkOnceRow.holds Tryz.pinned (OpenSpec.ofChange networkOnceWrong)

/-- 'sealringlaw31.NetworkWaits': WHATEVER THE INPUT: true; the input reads as it did. -/
def networkWaitsSpec : ChangeSpec := { name := "networkWaits", fn := fun _ => fun
  | [d] => { results := [.lit (.bool true)], args := [d] }
  | _ => none }
def networkWaitsRow : OpenClaim := { program := "ytckmkimhkhilgaagreat", sum := "a0d51fc19f904f469c9d45d8e332160572c6d743e800c079675b7b41ef2d0528", func := "sealring/sealringlaw31.NetworkWaits", spec := "networkWaits", inPlace := ["internal/bytealg.abigen_runtime_cmpstring", "slices.overlaps[sealring/api.Power]"], unfollowed := true, recurses := true, loops := true, apart := false }
def NetworkWaitsSaid : Prop := networkWaitsRow.holds Tryz.pinned (OpenSpec.ofChange networkWaitsSpec)

/-- ITS FALSE NEIGHBOUR: 'it returns false'. Refute it at one input. -/
def networkWaitsWrong : ChangeSpec := { name := "networkWaits", fn := fun _ => fun
  | [d] => { results := [.lit (.bool false)], args := [d] }
  | _ => none }
def NetworkWaitsWrongFalsely : Prop := networkWaitsRow.holds Tryz.pinned (OpenSpec.ofChange networkWaitsWrong)

/-- 'sealringlaw31.NetworkRepeats': WHATEVER THE INPUT: true; the input reads as it did. -/
def networkRepeatsSpec : ChangeSpec := { name := "networkRepeats", fn := fun _ => fun
  | [d1, d2] => { results := [.lit (.bool true)], args := [d1, d2] }
  | _ => none }
def networkRepeatsRow : OpenClaim := { program := "ytckmkimhkhilgaagreat", sum := "a0d51fc19f904f469c9d45d8e332160572c6d743e800c079675b7b41ef2d0528", func := "sealring/sealringlaw31.NetworkRepeats", spec := "networkRepeats", inPlace := ["internal/bytealg.abigen_runtime_cmpstring", "slices.overlaps[sealring/api.Power]"], unfollowed := true, recurses := true, loops := true, apart := false }
def NetworkRepeatsSaid : Prop := networkRepeatsRow.holds Tryz.pinned (OpenSpec.ofChange networkRepeatsSpec)

/-- ITS FALSE NEIGHBOUR: 'it returns false'. Refute it at one input. -/
def networkRepeatsWrong : ChangeSpec := { name := "networkRepeats", fn := fun _ => fun
  | [d1, d2] => { results := [.lit (.bool false)], args := [d1, d2] }
  | _ => none }
def NetworkRepeatsWrongFalsely : Prop := networkRepeatsRow.holds Tryz.pinned (OpenSpec.ofChange networkRepeatsWrong)

/- THE SECOND FORM. 'bulk': how many values and letters a reading holds, each counted each time it is reached (what is shared counts as often as it is met; a slice's spare places count too). A statement '..UptoSaid' is the law's where the arguments, and the package variables that the reading takes, are together of bulk at most 1048576: NARROWER than '..Said'. Prove '..Said' where nothing that the law and all that it calls make is longer than what came in: it says more and counts as full. Else prove '..UptoSaid'. A law counts once. -/
mutual
def uptoBulk {H : Type} : DataW H → Nat
  | .lit (.string bytes) => bytes.length + 1
  | .lit _ => 1
  | .nil => 1
  | .ptr d => uptoBulk d + 1
  | .slice elems spare => uptoBulkAll elems + uptoBulkAll spare + 1
  | .agg parts => uptoBulkAll parts + 1
  | .iface _ d => uptoBulk d + 1
  | .map entries => uptoBulkEntries entries + 1
  | .held _ => 1
def uptoBulkAll {H : Type} : List (DataW H) → Nat
  | [] => 0
  | d :: r => uptoBulk d + uptoBulkAll r
def uptoBulkEntries {H : Type} : List (Lit × DataW H) → Nat
  | [] => 0
  | x :: r => uptoBulkEntry x + uptoBulkEntries r
def uptoBulkEntry {H : Type} : Lit × DataW H → Nat
  | (.string bytes, d) => bytes.length + uptoBulk d + 1
  | (_, d) => uptoBulk d + 1
 end
def uptoSmall : (H : Type) → List (DataW H) → Bool := fun _ ds => decide (uptoBulkAll ds ≤ 1048576)
def OpenSpec.upto (s : _root_.Go.ChangeSpec) : _root_.Go.OpenSpec := { _root_.Go.OpenSpec.ofChange s with cond := some uptoSmall }

/-- 'sealringlaw31.NetworkSpoils', WHERE WHAT IT READS IS OF BULK AT MOST 1048576: true; the input reads as it did. -/
def networkSpoilsUptoRow : OpenClaim := { program := "ytckmkimhkhilgaagreat", sum := "a0d51fc19f904f469c9d45d8e332160572c6d743e800c079675b7b41ef2d0528", func := "sealring/sealringlaw31.NetworkSpoils", spec := "networkSpoils", inPlace := ["internal/bytealg.abigen_runtime_cmpstring", "slices.overlaps[sealring/api.Power]"], unfollowed := true, recurses := true, loops := true, apart := false, narrowed := true }
def NetworkSpoilsUptoSaid : Prop := networkSpoilsUptoRow.holds Tryz.pinned (OpenSpec.upto networkSpoilsSpec)

/-- 'sealringlaw31.NetworkSends', WHERE WHAT IT READS IS OF BULK AT MOST 1048576: true; the input reads as it did. -/
def networkSendsUptoRow : OpenClaim := { program := "ytckmkimhkhilgaagreat", sum := "a0d51fc19f904f469c9d45d8e332160572c6d743e800c079675b7b41ef2d0528", func := "sealring/sealringlaw31.NetworkSends", spec := "networkSends", inPlace := ["internal/bytealg.abigen_runtime_cmpstring", "slices.overlaps[sealring/api.Power]"], unfollowed := true, recurses := true, loops := true, apart := false, narrowed := true }
def NetworkSendsUptoSaid : Prop := networkSendsUptoRow.holds Tryz.pinned (OpenSpec.upto networkSendsSpec)

/-- 'sealringlaw31.NetworkScript', WHERE WHAT IT READS IS OF BULK AT MOST 1048576: true; the input reads as it did. -/
def networkScriptUptoRow : OpenClaim := { program := "ytckmkimhkhilgaagreat", sum := "a0d51fc19f904f469c9d45d8e332160572c6d743e800c079675b7b41ef2d0528", func := "sealring/sealringlaw31.NetworkScript", spec := "networkScript", inPlace := ["internal/bytealg.abigen_runtime_cmpstring", "slices.overlaps[sealring/api.Power]"], unfollowed := true, recurses := true, loops := true, apart := false, narrowed := true }
def NetworkScriptUptoSaid : Prop := networkScriptUptoRow.holds Tryz.pinned (OpenSpec.upto networkScriptSpec)

/-- 'sealringlaw31.NetworkCarries', WHERE WHAT IT READS IS OF BULK AT MOST 1048576: true; the input reads as it did. -/
def networkCarriesUptoRow : OpenClaim := { program := "ytckmkimhkhilgaagreat", sum := "a0d51fc19f904f469c9d45d8e332160572c6d743e800c079675b7b41ef2d0528", func := "sealring/sealringlaw31.NetworkCarries", spec := "networkCarries", inPlace := ["internal/bytealg.abigen_runtime_cmpstring", "slices.overlaps[sealring/api.Power]"], unfollowed := true, recurses := true, loops := true, apart := false, narrowed := true }
def NetworkCarriesUptoSaid : Prop := networkCarriesUptoRow.holds Tryz.pinned (OpenSpec.upto networkCarriesSpec)

/-- 'sealringlaw31.NetworkOnce', WHERE WHAT IT READS IS OF BULK AT MOST 1048576: true; the input reads as it did. -/
def networkOnceUptoRow : OpenClaim := { program := "ytckmkimhkhilgaagreat", sum := "a0d51fc19f904f469c9d45d8e332160572c6d743e800c079675b7b41ef2d0528", func := "sealring/sealringlaw31.NetworkOnce", spec := "networkOnce", inPlace := ["internal/bytealg.abigen_runtime_cmpstring", "slices.overlaps[sealring/api.Power]"], unfollowed := true, recurses := true, loops := true, apart := false, narrowed := true }
def NetworkOnceUptoSaid : Prop := networkOnceUptoRow.holds Tryz.pinned (OpenSpec.upto networkOnceSpec)

/-- 'sealringlaw31.NetworkWaits', WHERE WHAT IT READS IS OF BULK AT MOST 1048576: true; the input reads as it did. -/
def networkWaitsUptoRow : OpenClaim := { program := "ytckmkimhkhilgaagreat", sum := "a0d51fc19f904f469c9d45d8e332160572c6d743e800c079675b7b41ef2d0528", func := "sealring/sealringlaw31.NetworkWaits", spec := "networkWaits", inPlace := ["internal/bytealg.abigen_runtime_cmpstring", "slices.overlaps[sealring/api.Power]"], unfollowed := true, recurses := true, loops := true, apart := false, narrowed := true }
def NetworkWaitsUptoSaid : Prop := networkWaitsUptoRow.holds Tryz.pinned (OpenSpec.upto networkWaitsSpec)

/-- 'sealringlaw31.NetworkRepeats', WHERE WHAT IT READS IS OF BULK AT MOST 1048576: true; the input reads as it did. -/
def networkRepeatsUptoRow : OpenClaim := { program := "ytckmkimhkhilgaagreat", sum := "a0d51fc19f904f469c9d45d8e332160572c6d743e800c079675b7b41ef2d0528", func := "sealring/sealringlaw31.NetworkRepeats", spec := "networkRepeats", inPlace := ["internal/bytealg.abigen_runtime_cmpstring", "slices.overlaps[sealring/api.Power]"], unfollowed := true, recurses := true, loops := true, apart := false, narrowed := true }
def NetworkRepeatsUptoSaid : Prop := networkRepeatsUptoRow.holds Tryz.pinned (OpenSpec.upto networkRepeatsSpec)

end Rows
end Go.Proofs.YtckmkimhkhilgaaGreat
