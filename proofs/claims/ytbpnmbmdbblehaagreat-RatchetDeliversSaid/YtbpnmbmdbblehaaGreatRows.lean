/-
  NARROWER THAN 'FOR EVERY INPUT', by the rows' own cells (each row's printed sentence says how): RatchetNew: loops · RatchetReceive: loops · RatchetValid: loops · RatchetSend: loops.
  DERIVED. THE GIVEN ROWS OF THIS SEAT. 7 by the template 'for every input the law returns true; each argument reads behind the call as it read before'; 0 by the template 'total and deterministic' (their statements: YtbpnmbmdbblehaaGreatTotals.lean).
  GIVEN WITH THE SEED: the statements are not yours to turn. If you find one false, say at which input.
  Laid BY PROGRAM, IN A SANDBOX (cutbox-rows.mjs): the forced cells as the released guide's own fill.sh prints them over the translation 6ba22a74d8b47829… (all of the seat's roots in one cut). By AI agents, Wed Nov 11 2026. No macro, syntax, notation, axiom, sorry.
-/
import Derived.Test.YtbpnmbmdbblehaaGreatChecked
import GoSem.Claim
import GoSem.ClaimJoined
import GoSem.ClaimMapViews
import Derived.JoinedTies
import Derived.KernelRfl
namespace Go.Proofs.YtbpnmbmdbblehaaGreat
/- THE CELL 'sum', in the pinned program and in every row, IS THE sha256 OF THE DUMP (.gsa) THAT YtbpnmbmdbblehaaGreatProg.lean LOADS. Nothing in Lean hashes anything: it is a label: what it is worth is what the hold of that sum in a sandbox is worth. -/
noncomputable def Tryz.pinned : Pinned := { name := "ytbpnmbmdbblehaagreat", sum := "6ba22a74d8b47829d895bed6ad780ca9dcc5f5b565a6ec1e0b3f58fde4b225d6", checked := Tryz.checked }
namespace Rows
def none {H : Type} : Left H := { results := [], args := [] }

/-- 'sealringlaw53.RatchetNew': WHATEVER THE INPUT: true; the input reads as it did. -/
def ratchetNewSpec : ChangeSpec := { name := "ratchetNew", fn := fun _ => fun
  | [d1, d2] => { results := [.lit (.bool true)], args := [d1, d2] }
  | _ => none }
def ratchetNewRow : OpenClaim := { program := "ytbpnmbmdbblehaagreat", sum := "6ba22a74d8b47829d895bed6ad780ca9dcc5f5b565a6ec1e0b3f58fde4b225d6", func := "sealring/sealringlaw53.RatchetNew", spec := "ratchetNew", inPlace := ["internal/bytealg.abigen_runtime_cmpstring", "slices.overlaps[sealring/api.Power]"], unfollowed := true, recurses := true, loops := true, apart := false }
def RatchetNewSaid : Prop := ratchetNewRow.holds Tryz.pinned (OpenSpec.ofChange ratchetNewSpec)

/-- ITS FALSE NEIGHBOUR: 'it returns false'. Refute it at one input. -/
def ratchetNewWrong : ChangeSpec := { name := "ratchetNew", fn := fun _ => fun
  | [d1, d2] => { results := [.lit (.bool false)], args := [d1, d2] }
  | _ => none }
def RatchetNewWrongFalsely : Prop := ratchetNewRow.holds Tryz.pinned (OpenSpec.ofChange ratchetNewWrong)

/-- 'sealringlaw53.RatchetReceive': WHATEVER THE INPUT: true; the input reads as it did. -/
def ratchetReceiveSpec : ChangeSpec := { name := "ratchetReceive", fn := fun _ => fun
  | [d1, d2] => { results := [.lit (.bool true)], args := [d1, d2] }
  | _ => none }
def ratchetReceiveRow : OpenClaim := { program := "ytbpnmbmdbblehaagreat", sum := "6ba22a74d8b47829d895bed6ad780ca9dcc5f5b565a6ec1e0b3f58fde4b225d6", func := "sealring/sealringlaw53.RatchetReceive", spec := "ratchetReceive", inPlace := ["internal/bytealg.abigen_runtime_cmpstring", "slices.overlaps[sealring/api.Power]"], unfollowed := true, recurses := true, loops := true, apart := false }
def RatchetReceiveSaid : Prop := ratchetReceiveRow.holds Tryz.pinned (OpenSpec.ofChange ratchetReceiveSpec)

/-- ITS FALSE NEIGHBOUR: 'it returns false'. Refute it at one input. -/
def ratchetReceiveWrong : ChangeSpec := { name := "ratchetReceive", fn := fun _ => fun
  | [d1, d2] => { results := [.lit (.bool false)], args := [d1, d2] }
  | _ => none }
def RatchetReceiveWrongFalsely : Prop := ratchetReceiveRow.holds Tryz.pinned (OpenSpec.ofChange ratchetReceiveWrong)

/-- 'sealringlaw53.RatchetDelivers': WHATEVER THE INPUT: true; the input reads as it did. -/
def ratchetDeliversSpec : ChangeSpec := { name := "ratchetDelivers", fn := fun _ => fun
  | [d] => { results := [.lit (.bool true)], args := [d] }
  | _ => none }
def ratchetDeliversRow : OpenClaim := { program := "ytbpnmbmdbblehaagreat", sum := "6ba22a74d8b47829d895bed6ad780ca9dcc5f5b565a6ec1e0b3f58fde4b225d6", func := "sealring/sealringlaw53.RatchetDelivers", spec := "ratchetDelivers", inPlace := ["internal/bytealg.abigen_runtime_cmpstring", "slices.overlaps[sealring/api.Power]"], unfollowed := true, recurses := true, apart := false }
def RatchetDeliversSaid : Prop := ratchetDeliversRow.holds Tryz.pinned (OpenSpec.ofChange ratchetDeliversSpec)

/-- ITS FALSE NEIGHBOUR: 'it returns false'. Refute it at one input. -/
def ratchetDeliversWrong : ChangeSpec := { name := "ratchetDelivers", fn := fun _ => fun
  | [d] => { results := [.lit (.bool false)], args := [d] }
  | _ => none }
def RatchetDeliversWrongFalsely : Prop := ratchetDeliversRow.holds Tryz.pinned (OpenSpec.ofChange ratchetDeliversWrong)

/-- 'sealringlaw53.RatchetValid': WHATEVER THE INPUT: true; the input reads as it did. -/
def ratchetValidSpec : ChangeSpec := { name := "ratchetValid", fn := fun _ => fun
  | [d] => { results := [.lit (.bool true)], args := [d] }
  | _ => none }
def ratchetValidRow : OpenClaim := { program := "ytbpnmbmdbblehaagreat", sum := "6ba22a74d8b47829d895bed6ad780ca9dcc5f5b565a6ec1e0b3f58fde4b225d6", func := "sealring/sealringlaw53.RatchetValid", spec := "ratchetValid", inPlace := ["internal/bytealg.abigen_runtime_cmpstring", "slices.overlaps[sealring/api.Power]"], unfollowed := true, recurses := true, loops := true, apart := false }
def RatchetValidSaid : Prop := ratchetValidRow.holds Tryz.pinned (OpenSpec.ofChange ratchetValidSpec)

/-- ITS FALSE NEIGHBOUR: 'it returns false'. Refute it at one input. -/
def ratchetValidWrong : ChangeSpec := { name := "ratchetValid", fn := fun _ => fun
  | [d] => { results := [.lit (.bool false)], args := [d] }
  | _ => none }
def RatchetValidWrongFalsely : Prop := ratchetValidRow.holds Tryz.pinned (OpenSpec.ofChange ratchetValidWrong)

/-- 'sealringlaw53.RatchetForward': WHATEVER THE INPUT: true; the input reads as it did. -/
def ratchetForwardSpec : ChangeSpec := { name := "ratchetForward", fn := fun _ => fun
  | [d1, d2] => { results := [.lit (.bool true)], args := [d1, d2] }
  | _ => none }
def ratchetForwardRow : OpenClaim := { program := "ytbpnmbmdbblehaagreat", sum := "6ba22a74d8b47829d895bed6ad780ca9dcc5f5b565a6ec1e0b3f58fde4b225d6", func := "sealring/sealringlaw53.RatchetForward", spec := "ratchetForward", inPlace := ["internal/bytealg.abigen_runtime_cmpstring", "slices.overlaps[sealring/api.Power]"], unfollowed := true, recurses := true, apart := false }
def RatchetForwardSaid : Prop := ratchetForwardRow.holds Tryz.pinned (OpenSpec.ofChange ratchetForwardSpec)

/-- ITS FALSE NEIGHBOUR: 'it returns false'. Refute it at one input. -/
def ratchetForwardWrong : ChangeSpec := { name := "ratchetForward", fn := fun _ => fun
  | [d1, d2] => { results := [.lit (.bool false)], args := [d1, d2] }
  | _ => none }
def RatchetForwardWrongFalsely : Prop := ratchetForwardRow.holds Tryz.pinned (OpenSpec.ofChange ratchetForwardWrong)

/-- 'sealringlaw53.RatchetSend': WHATEVER THE INPUT: true; the input reads as it did. -/
def ratchetSendSpec : ChangeSpec := { name := "ratchetSend", fn := fun _ => fun
  | [d1, d2] => { results := [.lit (.bool true)], args := [d1, d2] }
  | _ => none }
def ratchetSendRow : OpenClaim := { program := "ytbpnmbmdbblehaagreat", sum := "6ba22a74d8b47829d895bed6ad780ca9dcc5f5b565a6ec1e0b3f58fde4b225d6", func := "sealring/sealringlaw53.RatchetSend", spec := "ratchetSend", inPlace := ["internal/bytealg.abigen_runtime_cmpstring", "slices.overlaps[sealring/api.Power]"], unfollowed := true, recurses := true, loops := true, apart := false }
def RatchetSendSaid : Prop := ratchetSendRow.holds Tryz.pinned (OpenSpec.ofChange ratchetSendSpec)

/-- ITS FALSE NEIGHBOUR: 'it returns false'. Refute it at one input. -/
def ratchetSendWrong : ChangeSpec := { name := "ratchetSend", fn := fun _ => fun
  | [d1, d2] => { results := [.lit (.bool false)], args := [d1, d2] }
  | _ => none }
def RatchetSendWrongFalsely : Prop := ratchetSendRow.holds Tryz.pinned (OpenSpec.ofChange ratchetSendWrong)

/-- 'sealringlaw53.RatchetHeals': WHATEVER THE INPUT: true; the input reads as it did. -/
def ratchetHealsSpec : ChangeSpec := { name := "ratchetHeals", fn := fun _ => fun
  | [d] => { results := [.lit (.bool true)], args := [d] }
  | _ => none }
def ratchetHealsRow : OpenClaim := { program := "ytbpnmbmdbblehaagreat", sum := "6ba22a74d8b47829d895bed6ad780ca9dcc5f5b565a6ec1e0b3f58fde4b225d6", func := "sealring/sealringlaw53.RatchetHeals", spec := "ratchetHeals", inPlace := ["internal/bytealg.abigen_runtime_cmpstring", "slices.overlaps[sealring/api.Power]"], unfollowed := true, recurses := true, apart := false }
def RatchetHealsSaid : Prop := ratchetHealsRow.holds Tryz.pinned (OpenSpec.ofChange ratchetHealsSpec)

/-- ITS FALSE NEIGHBOUR: 'it returns false'. Refute it at one input. -/
def ratchetHealsWrong : ChangeSpec := { name := "ratchetHeals", fn := fun _ => fun
  | [d] => { results := [.lit (.bool false)], args := [d] }
  | _ => none }
def RatchetHealsWrongFalsely : Prop := ratchetHealsRow.holds Tryz.pinned (OpenSpec.ofChange ratchetHealsWrong)

/- THE SECOND FORM. 'bulk': how many values and letters a reading holds, each counted each time it is reached (what is shared counts as often as it is met; a slice's spare places count too). A statement '..UptoSaid' is the law's where the arguments, and the package variables that the reading takes, are together of bulk at most 1048576: NARROWER than '..Said'. Prove '..Said' where nothing that the law and all that it calls make is longer than what came in: it says more and counts as full. Else prove '..UptoSaid'. A law counts once. -/
mutual
def uptoBulk {H : Type} : DataW H → Nat
  | .lit (.string bytes) => bytes.length + 1
  | .lit _ => 1
  | .nil => 1
  | .ptr d => uptoBulk d + 1
  | .slice elems spare => uptoBulkAll elems + uptoBulkAll spare + 1
  | .agg parts => uptoBulkAll parts + 1
  | .iface _ d => uptoBulk d + 1
  | .map entries => uptoBulkEntries entries + 1
  | .held _ => 1
def uptoBulkAll {H : Type} : List (DataW H) → Nat
  | [] => 0
  | d :: r => uptoBulk d + uptoBulkAll r
def uptoBulkEntries {H : Type} : List (Lit × DataW H) → Nat
  | [] => 0
  | x :: r => uptoBulkEntry x + uptoBulkEntries r
def uptoBulkEntry {H : Type} : Lit × DataW H → Nat
  | (.string bytes, d) => bytes.length + uptoBulk d + 1
  | (_, d) => uptoBulk d + 1
 end
def uptoSmall : (H : Type) → List (DataW H) → Bool := fun _ ds => decide (uptoBulkAll ds ≤ 1048576)
def OpenSpec.upto (s : _root_.Go.ChangeSpec) : _root_.Go.OpenSpec := { _root_.Go.OpenSpec.ofChange s with cond := some uptoSmall }

/-- 'sealringlaw53.RatchetNew', WHERE WHAT IT READS IS OF BULK AT MOST 1048576: true; the input reads as it did. -/
def ratchetNewUptoRow : OpenClaim := { program := "ytbpnmbmdbblehaagreat", sum := "6ba22a74d8b47829d895bed6ad780ca9dcc5f5b565a6ec1e0b3f58fde4b225d6", func := "sealring/sealringlaw53.RatchetNew", spec := "ratchetNew", inPlace := ["internal/bytealg.abigen_runtime_cmpstring", "slices.overlaps[sealring/api.Power]"], unfollowed := true, recurses := true, loops := true, apart := false, narrowed := true }
def RatchetNewUptoSaid : Prop := ratchetNewUptoRow.holds Tryz.pinned (OpenSpec.upto ratchetNewSpec)

/-- 'sealringlaw53.RatchetReceive', WHERE WHAT IT READS IS OF BULK AT MOST 1048576: true; the input reads as it did. -/
def ratchetReceiveUptoRow : OpenClaim := { program := "ytbpnmbmdbblehaagreat", sum := "6ba22a74d8b47829d895bed6ad780ca9dcc5f5b565a6ec1e0b3f58fde4b225d6", func := "sealring/sealringlaw53.RatchetReceive", spec := "ratchetReceive", inPlace := ["internal/bytealg.abigen_runtime_cmpstring", "slices.overlaps[sealring/api.Power]"], unfollowed := true, recurses := true, loops := true, apart := false, narrowed := true }
def RatchetReceiveUptoSaid : Prop := ratchetReceiveUptoRow.holds Tryz.pinned (OpenSpec.upto ratchetReceiveSpec)

/-- 'sealringlaw53.RatchetDelivers', WHERE WHAT IT READS IS OF BULK AT MOST 1048576: true; the input reads as it did. -/
def ratchetDeliversUptoRow : OpenClaim := { program := "ytbpnmbmdbblehaagreat", sum := "6ba22a74d8b47829d895bed6ad780ca9dcc5f5b565a6ec1e0b3f58fde4b225d6", func := "sealring/sealringlaw53.RatchetDelivers", spec := "ratchetDelivers", inPlace := ["internal/bytealg.abigen_runtime_cmpstring", "slices.overlaps[sealring/api.Power]"], unfollowed := true, recurses := true, apart := false, narrowed := true }
def RatchetDeliversUptoSaid : Prop := ratchetDeliversUptoRow.holds Tryz.pinned (OpenSpec.upto ratchetDeliversSpec)

/-- 'sealringlaw53.RatchetValid', WHERE WHAT IT READS IS OF BULK AT MOST 1048576: true; the input reads as it did. -/
def ratchetValidUptoRow : OpenClaim := { program := "ytbpnmbmdbblehaagreat", sum := "6ba22a74d8b47829d895bed6ad780ca9dcc5f5b565a6ec1e0b3f58fde4b225d6", func := "sealring/sealringlaw53.RatchetValid", spec := "ratchetValid", inPlace := ["internal/bytealg.abigen_runtime_cmpstring", "slices.overlaps[sealring/api.Power]"], unfollowed := true, recurses := true, loops := true, apart := false, narrowed := true }
def RatchetValidUptoSaid : Prop := ratchetValidUptoRow.holds Tryz.pinned (OpenSpec.upto ratchetValidSpec)

/-- 'sealringlaw53.RatchetForward', WHERE WHAT IT READS IS OF BULK AT MOST 1048576: true; the input reads as it did. -/
def ratchetForwardUptoRow : OpenClaim := { program := "ytbpnmbmdbblehaagreat", sum := "6ba22a74d8b47829d895bed6ad780ca9dcc5f5b565a6ec1e0b3f58fde4b225d6", func := "sealring/sealringlaw53.RatchetForward", spec := "ratchetForward", inPlace := ["internal/bytealg.abigen_runtime_cmpstring", "slices.overlaps[sealring/api.Power]"], unfollowed := true, recurses := true, apart := false, narrowed := true }
def RatchetForwardUptoSaid : Prop := ratchetForwardUptoRow.holds Tryz.pinned (OpenSpec.upto ratchetForwardSpec)

/-- 'sealringlaw53.RatchetSend', WHERE WHAT IT READS IS OF BULK AT MOST 1048576: true; the input reads as it did. -/
def ratchetSendUptoRow : OpenClaim := { program := "ytbpnmbmdbblehaagreat", sum := "6ba22a74d8b47829d895bed6ad780ca9dcc5f5b565a6ec1e0b3f58fde4b225d6", func := "sealring/sealringlaw53.RatchetSend", spec := "ratchetSend", inPlace := ["internal/bytealg.abigen_runtime_cmpstring", "slices.overlaps[sealring/api.Power]"], unfollowed := true, recurses := true, loops := true, apart := false, narrowed := true }
def RatchetSendUptoSaid : Prop := ratchetSendUptoRow.holds Tryz.pinned (OpenSpec.upto ratchetSendSpec)

/-- 'sealringlaw53.RatchetHeals', WHERE WHAT IT READS IS OF BULK AT MOST 1048576: true; the input reads as it did. -/
def ratchetHealsUptoRow : OpenClaim := { program := "ytbpnmbmdbblehaagreat", sum := "6ba22a74d8b47829d895bed6ad780ca9dcc5f5b565a6ec1e0b3f58fde4b225d6", func := "sealring/sealringlaw53.RatchetHeals", spec := "ratchetHeals", inPlace := ["internal/bytealg.abigen_runtime_cmpstring", "slices.overlaps[sealring/api.Power]"], unfollowed := true, recurses := true, apart := false, narrowed := true }
def RatchetHealsUptoSaid : Prop := ratchetHealsUptoRow.holds Tryz.pinned (OpenSpec.upto ratchetHealsSpec)

end Rows
end Go.Proofs.YtbpnmbmdbblehaaGreat
