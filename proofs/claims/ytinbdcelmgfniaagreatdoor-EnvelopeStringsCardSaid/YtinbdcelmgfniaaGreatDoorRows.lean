/-
  NARROWER THAN 'FOR EVERY INPUT', by the rows' own cells (each row's printed sentence says how): EnvelopeDecode: laid · EnvelopeEncode: loops, laid · EnvelopePrefix: loops, laid · EnvelopeSpoil: laid · EnvelopeTags: loops, laid · EnvelopeFits: loops, laid · EnvelopeStrings: loops, laid.
  DERIVED. THE GIVEN ROWS OF THIS SEAT. 7 by the template 'for every input the law returns true; each argument reads behind the call as it read before'; 0 by the template 'total and deterministic' (their statements: YtinbdcelmgfniaaGreatDoorTotals.lean).
  GIVEN WITH THE SEED: the statements are not yours to turn. If you find one false, say at which input.
  Laid BY PROGRAM, IN A SANDBOX (cutbox-rows.mjs): the forced cells as the released guide's own fill.sh prints them over the translation 48d0a899b45d0e8a… (all of the seat's roots in one cut). By AI agents, Wed Nov 11 2026. No macro, syntax, notation, axiom, sorry.
-/
import Derived.Test.YtinbdcelmgfniaaGreatDoorChecked
import GoSem.Claim
import GoSem.ClaimJoined
import GoSem.ClaimMapViews
import Derived.JoinedTies
import Derived.KernelRfl
namespace Go.Proofs.YtinbdcelmgfniaaGreatDoor
/- THE CELL 'sum', in the pinned program and in every row, IS THE sha256 OF THE DUMP (.gsa) THAT YtinbdcelmgfniaaGreatDoorProg.lean LOADS. Nothing in Lean hashes anything: it is a label: what it is worth is what the hold of that sum in a sandbox is worth. -/
noncomputable def Tryz.pinned : Pinned := { name := "ytinbdcelmgfniaagreatdoor", sum := "48d0a899b45d0e8aa2e8d449e2a40ae39fd5def2a3168f315bcffc56d4ec256e", checked := Tryz.checked }
namespace Rows
def none {H : Type} : Left H := { results := [], args := [] }

/- WHAT THE LISTED PACKAGE-LEVEL VARIABLES READ AS WHEN THE CALL BEGINS. Each datum BY PROGRAM (the guide's laid-datum.mjs) off the statement by which the dump's own 'gosem.cut.vars' lays the variable. In a bare row this is a premise. The card (YtinbdcelmgfniaaGreatDoorCards.lean) ties it to the program's text. -/
def laid_math_bits_deBruijn32tab {H : Type} : DataW H := .agg [.lit (.int .u8 0), .lit (.int .u8 1), .lit (.int .u8 28), .lit (.int .u8 2), .lit (.int .u8 29), .lit (.int .u8 14), .lit (.int .u8 24), .lit (.int .u8 3), .lit (.int .u8 30), .lit (.int .u8 22), .lit (.int .u8 20), .lit (.int .u8 15), .lit (.int .u8 25), .lit (.int .u8 17), .lit (.int .u8 4), .lit (.int .u8 8), .lit (.int .u8 31), .lit (.int .u8 27), .lit (.int .u8 13), .lit (.int .u8 23), .lit (.int .u8 21), .lit (.int .u8 19), .lit (.int .u8 16), .lit (.int .u8 7), .lit (.int .u8 26), .lit (.int .u8 12), .lit (.int .u8 18), .lit (.int .u8 6), .lit (.int .u8 11), .lit (.int .u8 5), .lit (.int .u8 10), .lit (.int .u8 9)]
def laid_math_bits_deBruijn64tab {H : Type} : DataW H := .agg [.lit (.int .u8 0), .lit (.int .u8 1), .lit (.int .u8 56), .lit (.int .u8 2), .lit (.int .u8 57), .lit (.int .u8 49), .lit (.int .u8 28), .lit (.int .u8 3), .lit (.int .u8 61), .lit (.int .u8 58), .lit (.int .u8 42), .lit (.int .u8 50), .lit (.int .u8 38), .lit (.int .u8 29), .lit (.int .u8 17), .lit (.int .u8 4), .lit (.int .u8 62), .lit (.int .u8 47), .lit (.int .u8 59), .lit (.int .u8 36), .lit (.int .u8 45), .lit (.int .u8 43), .lit (.int .u8 51), .lit (.int .u8 22), .lit (.int .u8 53), .lit (.int .u8 39), .lit (.int .u8 33), .lit (.int .u8 30), .lit (.int .u8 24), .lit (.int .u8 18), .lit (.int .u8 12), .lit (.int .u8 5), .lit (.int .u8 63), .lit (.int .u8 55), .lit (.int .u8 48), .lit (.int .u8 27), .lit (.int .u8 60), .lit (.int .u8 41), .lit (.int .u8 37), .lit (.int .u8 16), .lit (.int .u8 46), .lit (.int .u8 35), .lit (.int .u8 44), .lit (.int .u8 21), .lit (.int .u8 52), .lit (.int .u8 32), .lit (.int .u8 23), .lit (.int .u8 11), .lit (.int .u8 54), .lit (.int .u8 26), .lit (.int .u8 40), .lit (.int .u8 15), .lit (.int .u8 34), .lit (.int .u8 20), .lit (.int .u8 31), .lit (.int .u8 10), .lit (.int .u8 25), .lit (.int .u8 14), .lit (.int .u8 19), .lit (.int .u8 9), .lit (.int .u8 13), .lit (.int .u8 8), .lit (.int .u8 7), .lit (.int .u8 6)]
def laid_internal_strconv_uint64pow10 {H : Type} : DataW H := .agg [.lit (.int .u64 1), .lit (.int .u64 10), .lit (.int .u64 100), .lit (.int .u64 1000), .lit (.int .u64 10000), .lit (.int .u64 100000), .lit (.int .u64 1000000), .lit (.int .u64 10000000), .lit (.int .u64 100000000), .lit (.int .u64 1000000000), .lit (.int .u64 10000000000), .lit (.int .u64 100000000000), .lit (.int .u64 1000000000000), .lit (.int .u64 10000000000000), .lit (.int .u64 100000000000000), .lit (.int .u64 1000000000000000), .lit (.int .u64 10000000000000000), .lit (.int .u64 100000000000000000), .lit (.int .u64 1000000000000000000), .lit (.int .u64 10000000000000000000)]

/-- 'sealringlaw20.EnvelopeDecode': WHATEVER THE INPUT: true; the input reads as it did. -/
def envelopeDecodeSpec : ChangeSpec := { name := "envelopeDecode", fn := fun _ => fun
  | [d] => { results := [.lit (.bool true)], args := [d] }
  | _ => none }
def envelopeDecodeRow : OpenClaim := { program := "ytinbdcelmgfniaagreatdoor", sum := "48d0a899b45d0e8aa2e8d449e2a40ae39fd5def2a3168f315bcffc56d4ec256e", func := "sealring/sealringlaw20.EnvelopeDecode", spec := "envelopeDecode", inPlace := ["internal/bytealg.abigen_runtime_cmpstring", "slices.overlaps[sealring/api.Power]"], unfollowed := true, recurses := true, named := ["internal/strconv.uint64pow10", "math/bits.deBruijn32tab", "math/bits.deBruijn64tab"], plainKeys := false, apart := false, laid := [("math/bits.deBruijn32tab", laid_math_bits_deBruijn32tab), ("math/bits.deBruijn64tab", laid_math_bits_deBruijn64tab), ("internal/strconv.uint64pow10", laid_internal_strconv_uint64pow10)] }
def EnvelopeDecodeSaid : Prop := envelopeDecodeRow.holds Tryz.pinned (OpenSpec.ofChange envelopeDecodeSpec)

/-- ITS FALSE NEIGHBOUR: 'it returns false'. Refute it at one input. -/
def envelopeDecodeWrong : ChangeSpec := { name := "envelopeDecode", fn := fun _ => fun
  | [d] => { results := [.lit (.bool false)], args := [d] }
  | _ => none }
def EnvelopeDecodeWrongFalsely : Prop := envelopeDecodeRow.holds Tryz.pinned (OpenSpec.ofChange envelopeDecodeWrong)

/-- 'sealringlaw20.EnvelopeEncode': WHATEVER THE INPUT: true; the input reads as it did. -/
def envelopeEncodeSpec : ChangeSpec := { name := "envelopeEncode", fn := fun _ => fun
  | [d] => { results := [.lit (.bool true)], args := [d] }
  | _ => none }
def envelopeEncodeRow : OpenClaim := { program := "ytinbdcelmgfniaagreatdoor", sum := "48d0a899b45d0e8aa2e8d449e2a40ae39fd5def2a3168f315bcffc56d4ec256e", func := "sealring/sealringlaw20.EnvelopeEncode", spec := "envelopeEncode", inPlace := ["internal/bytealg.abigen_runtime_cmpstring", "slices.overlaps[sealring/api.Power]"], unfollowed := true, recurses := true, named := ["internal/strconv.uint64pow10", "math/bits.deBruijn32tab", "math/bits.deBruijn64tab"], loops := true, plainKeys := false, apart := false, laid := [("math/bits.deBruijn32tab", laid_math_bits_deBruijn32tab), ("math/bits.deBruijn64tab", laid_math_bits_deBruijn64tab), ("internal/strconv.uint64pow10", laid_internal_strconv_uint64pow10)] }
def EnvelopeEncodeSaid : Prop := envelopeEncodeRow.holds Tryz.pinned (OpenSpec.ofChange envelopeEncodeSpec)

/-- ITS FALSE NEIGHBOUR: 'it returns false'. Refute it at one input. -/
def envelopeEncodeWrong : ChangeSpec := { name := "envelopeEncode", fn := fun _ => fun
  | [d] => { results := [.lit (.bool false)], args := [d] }
  | _ => none }
def EnvelopeEncodeWrongFalsely : Prop := envelopeEncodeRow.holds Tryz.pinned (OpenSpec.ofChange envelopeEncodeWrong)

/-- 'sealringlaw20.EnvelopePrefix': WHATEVER THE INPUT: true; the input reads as it did. -/
def envelopePrefixSpec : ChangeSpec := { name := "envelopePrefix", fn := fun _ => fun
  | [d1, d2] => { results := [.lit (.bool true)], args := [d1, d2] }
  | _ => none }
def envelopePrefixRow : OpenClaim := { program := "ytinbdcelmgfniaagreatdoor", sum := "48d0a899b45d0e8aa2e8d449e2a40ae39fd5def2a3168f315bcffc56d4ec256e", func := "sealring/sealringlaw20.EnvelopePrefix", spec := "envelopePrefix", inPlace := ["internal/bytealg.abigen_runtime_cmpstring", "slices.overlaps[sealring/api.Power]"], unfollowed := true, recurses := true, named := ["internal/strconv.uint64pow10", "math/bits.deBruijn32tab", "math/bits.deBruijn64tab"], loops := true, plainKeys := false, apart := false, laid := [("math/bits.deBruijn32tab", laid_math_bits_deBruijn32tab), ("math/bits.deBruijn64tab", laid_math_bits_deBruijn64tab), ("internal/strconv.uint64pow10", laid_internal_strconv_uint64pow10)] }
def EnvelopePrefixSaid : Prop := envelopePrefixRow.holds Tryz.pinned (OpenSpec.ofChange envelopePrefixSpec)

/-- ITS FALSE NEIGHBOUR: 'it returns false'. Refute it at one input. -/
def envelopePrefixWrong : ChangeSpec := { name := "envelopePrefix", fn := fun _ => fun
  | [d1, d2] => { results := [.lit (.bool false)], args := [d1, d2] }
  | _ => none }
def EnvelopePrefixWrongFalsely : Prop := envelopePrefixRow.holds Tryz.pinned (OpenSpec.ofChange envelopePrefixWrong)

/-- 'sealringlaw20.EnvelopeSpoil': WHATEVER THE INPUT: true; the input reads as it did. -/
def envelopeSpoilSpec : ChangeSpec := { name := "envelopeSpoil", fn := fun _ => fun
  | [d1, d2, d3] => { results := [.lit (.bool true)], args := [d1, d2, d3] }
  | _ => none }
def envelopeSpoilRow : OpenClaim := { program := "ytinbdcelmgfniaagreatdoor", sum := "48d0a899b45d0e8aa2e8d449e2a40ae39fd5def2a3168f315bcffc56d4ec256e", func := "sealring/sealringlaw20.EnvelopeSpoil", spec := "envelopeSpoil", inPlace := ["internal/bytealg.abigen_runtime_cmpstring", "slices.overlaps[sealring/api.Power]"], unfollowed := true, recurses := true, named := ["internal/strconv.uint64pow10", "math/bits.deBruijn32tab", "math/bits.deBruijn64tab"], plainKeys := false, apart := false, laid := [("math/bits.deBruijn32tab", laid_math_bits_deBruijn32tab), ("math/bits.deBruijn64tab", laid_math_bits_deBruijn64tab), ("internal/strconv.uint64pow10", laid_internal_strconv_uint64pow10)] }
def EnvelopeSpoilSaid : Prop := envelopeSpoilRow.holds Tryz.pinned (OpenSpec.ofChange envelopeSpoilSpec)

/-- ITS FALSE NEIGHBOUR: 'it returns false'. Refute it at one input. -/
def envelopeSpoilWrong : ChangeSpec := { name := "envelopeSpoil", fn := fun _ => fun
  | [d1, d2, d3] => { results := [.lit (.bool false)], args := [d1, d2, d3] }
  | _ => none }
def EnvelopeSpoilWrongFalsely : Prop := envelopeSpoilRow.holds Tryz.pinned (OpenSpec.ofChange envelopeSpoilWrong)

/-- 'sealringlaw20.EnvelopeTags': WHATEVER THE INPUT: true; the input reads as it did. -/
def envelopeTagsSpec : ChangeSpec := { name := "envelopeTags", fn := fun _ => fun
  | [d] => { results := [.lit (.bool true)], args := [d] }
  | _ => none }
def envelopeTagsRow : OpenClaim := { program := "ytinbdcelmgfniaagreatdoor", sum := "48d0a899b45d0e8aa2e8d449e2a40ae39fd5def2a3168f315bcffc56d4ec256e", func := "sealring/sealringlaw20.EnvelopeTags", spec := "envelopeTags", inPlace := ["internal/bytealg.abigen_runtime_cmpstring", "slices.overlaps[sealring/api.Power]"], unfollowed := true, recurses := true, named := ["internal/strconv.uint64pow10", "math/bits.deBruijn32tab", "math/bits.deBruijn64tab"], loops := true, plainKeys := false, apart := false, laid := [("math/bits.deBruijn32tab", laid_math_bits_deBruijn32tab), ("math/bits.deBruijn64tab", laid_math_bits_deBruijn64tab), ("internal/strconv.uint64pow10", laid_internal_strconv_uint64pow10)] }
def EnvelopeTagsSaid : Prop := envelopeTagsRow.holds Tryz.pinned (OpenSpec.ofChange envelopeTagsSpec)

/-- ITS FALSE NEIGHBOUR: 'it returns false'. Refute it at one input. -/
def envelopeTagsWrong : ChangeSpec := { name := "envelopeTags", fn := fun _ => fun
  | [d] => { results := [.lit (.bool false)], args := [d] }
  | _ => none }
def EnvelopeTagsWrongFalsely : Prop := envelopeTagsRow.holds Tryz.pinned (OpenSpec.ofChange envelopeTagsWrong)

/-- 'sealringlaw20.EnvelopeFits': WHATEVER THE INPUT: true; the input reads as it did. -/
def envelopeFitsSpec : ChangeSpec := { name := "envelopeFits", fn := fun _ => fun
  | [d1, d2] => { results := [.lit (.bool true)], args := [d1, d2] }
  | _ => none }
def envelopeFitsRow : OpenClaim := { program := "ytinbdcelmgfniaagreatdoor", sum := "48d0a899b45d0e8aa2e8d449e2a40ae39fd5def2a3168f315bcffc56d4ec256e", func := "sealring/sealringlaw20.EnvelopeFits", spec := "envelopeFits", inPlace := ["internal/bytealg.abigen_runtime_cmpstring", "slices.overlaps[sealring/api.Power]"], unfollowed := true, recurses := true, named := ["internal/strconv.uint64pow10", "math/bits.deBruijn32tab", "math/bits.deBruijn64tab"], loops := true, plainKeys := false, apart := false, laid := [("math/bits.deBruijn32tab", laid_math_bits_deBruijn32tab), ("math/bits.deBruijn64tab", laid_math_bits_deBruijn64tab), ("internal/strconv.uint64pow10", laid_internal_strconv_uint64pow10)] }
def EnvelopeFitsSaid : Prop := envelopeFitsRow.holds Tryz.pinned (OpenSpec.ofChange envelopeFitsSpec)

/-- ITS FALSE NEIGHBOUR: 'it returns false'. Refute it at one input. -/
def envelopeFitsWrong : ChangeSpec := { name := "envelopeFits", fn := fun _ => fun
  | [d1, d2] => { results := [.lit (.bool false)], args := [d1, d2] }
  | _ => none }
def EnvelopeFitsWrongFalsely : Prop := envelopeFitsRow.holds Tryz.pinned (OpenSpec.ofChange envelopeFitsWrong)

/-- 'sealringlaw20.EnvelopeStrings': WHATEVER THE INPUT: true; the input reads as it did. -/
def envelopeStringsSpec : ChangeSpec := { name := "envelopeStrings", fn := fun _ => fun
  | [d1, d2, d3] => { results := [.lit (.bool true)], args := [d1, d2, d3] }
  | _ => none }
def envelopeStringsRow : OpenClaim := { program := "ytinbdcelmgfniaagreatdoor", sum := "48d0a899b45d0e8aa2e8d449e2a40ae39fd5def2a3168f315bcffc56d4ec256e", func := "sealring/sealringlaw20.EnvelopeStrings", spec := "envelopeStrings", inPlace := ["internal/bytealg.abigen_runtime_cmpstring", "slices.overlaps[sealring/api.Power]"], unfollowed := true, recurses := true, named := ["internal/strconv.uint64pow10", "math/bits.deBruijn32tab", "math/bits.deBruijn64tab"], loops := true, plainKeys := false, apart := false, laid := [("math/bits.deBruijn32tab", laid_math_bits_deBruijn32tab), ("math/bits.deBruijn64tab", laid_math_bits_deBruijn64tab), ("internal/strconv.uint64pow10", laid_internal_strconv_uint64pow10)] }
def EnvelopeStringsSaid : Prop := envelopeStringsRow.holds Tryz.pinned (OpenSpec.ofChange envelopeStringsSpec)

/-- ITS FALSE NEIGHBOUR: 'it returns false'. Refute it at one input. -/
def envelopeStringsWrong : ChangeSpec := { name := "envelopeStrings", fn := fun _ => fun
  | [d1, d2, d3] => { results := [.lit (.bool false)], args := [d1, d2, d3] }
  | _ => none }
def EnvelopeStringsWrongFalsely : Prop := envelopeStringsRow.holds Tryz.pinned (OpenSpec.ofChange envelopeStringsWrong)

/- THE SECOND FORM. 'bulk': how many values and letters a reading holds, each counted each time it is reached (what is shared counts as often as it is met; a slice's spare places count too). A statement '..UptoSaid' is the law's where the arguments, and the package variables that the reading takes, are together of bulk at most 1048576: NARROWER than '..Said'. Prove '..Said' where nothing that the law and all that it calls make is longer than what came in: it says more and counts as full. Else prove '..UptoSaid'. A law counts once. -/
mutual
def uptoBulk {H : Type} : DataW H → Nat
  | .lit (.string bytes) => bytes.length + 1
  | .lit _ => 1
  | .nil => 1
  | .ptr d => uptoBulk d + 1
  | .slice elems spare => uptoBulkAll elems + uptoBulkAll spare + 1
  | .agg parts => uptoBulkAll parts + 1
  | .iface _ d => uptoBulk d + 1
  | .map entries => uptoBulkEntries entries + 1
  | .held _ => 1
def uptoBulkAll {H : Type} : List (DataW H) → Nat
  | [] => 0
  | d :: r => uptoBulk d + uptoBulkAll r
def uptoBulkEntries {H : Type} : List (Lit × DataW H) → Nat
  | [] => 0
  | x :: r => uptoBulkEntry x + uptoBulkEntries r
def uptoBulkEntry {H : Type} : Lit × DataW H → Nat
  | (.string bytes, d) => bytes.length + uptoBulk d + 1
  | (_, d) => uptoBulk d + 1
 end
def uptoSmall : (H : Type) → List (DataW H) → Bool := fun _ ds => decide (uptoBulkAll ds ≤ 1048576)
def OpenSpec.upto (s : _root_.Go.ChangeSpec) : _root_.Go.OpenSpec := { _root_.Go.OpenSpec.ofChange s with cond := some uptoSmall }

/-- 'sealringlaw20.EnvelopeDecode', WHERE WHAT IT READS IS OF BULK AT MOST 1048576: true; the input reads as it did. -/
def envelopeDecodeUptoRow : OpenClaim := { program := "ytinbdcelmgfniaagreatdoor", sum := "48d0a899b45d0e8aa2e8d449e2a40ae39fd5def2a3168f315bcffc56d4ec256e", func := "sealring/sealringlaw20.EnvelopeDecode", spec := "envelopeDecode", inPlace := ["internal/bytealg.abigen_runtime_cmpstring", "slices.overlaps[sealring/api.Power]"], unfollowed := true, recurses := true, named := ["internal/strconv.uint64pow10", "math/bits.deBruijn32tab", "math/bits.deBruijn64tab"], plainKeys := false, apart := false, laid := [("math/bits.deBruijn32tab", laid_math_bits_deBruijn32tab), ("math/bits.deBruijn64tab", laid_math_bits_deBruijn64tab), ("internal/strconv.uint64pow10", laid_internal_strconv_uint64pow10)], narrowed := true }
def EnvelopeDecodeUptoSaid : Prop := envelopeDecodeUptoRow.holds Tryz.pinned (OpenSpec.upto envelopeDecodeSpec)

/-- 'sealringlaw20.EnvelopeEncode', WHERE WHAT IT READS IS OF BULK AT MOST 1048576: true; the input reads as it did. -/
def envelopeEncodeUptoRow : OpenClaim := { program := "ytinbdcelmgfniaagreatdoor", sum := "48d0a899b45d0e8aa2e8d449e2a40ae39fd5def2a3168f315bcffc56d4ec256e", func := "sealring/sealringlaw20.EnvelopeEncode", spec := "envelopeEncode", inPlace := ["internal/bytealg.abigen_runtime_cmpstring", "slices.overlaps[sealring/api.Power]"], unfollowed := true, recurses := true, named := ["internal/strconv.uint64pow10", "math/bits.deBruijn32tab", "math/bits.deBruijn64tab"], loops := true, plainKeys := false, apart := false, laid := [("math/bits.deBruijn32tab", laid_math_bits_deBruijn32tab), ("math/bits.deBruijn64tab", laid_math_bits_deBruijn64tab), ("internal/strconv.uint64pow10", laid_internal_strconv_uint64pow10)], narrowed := true }
def EnvelopeEncodeUptoSaid : Prop := envelopeEncodeUptoRow.holds Tryz.pinned (OpenSpec.upto envelopeEncodeSpec)

/-- 'sealringlaw20.EnvelopePrefix', WHERE WHAT IT READS IS OF BULK AT MOST 1048576: true; the input reads as it did. -/
def envelopePrefixUptoRow : OpenClaim := { program := "ytinbdcelmgfniaagreatdoor", sum := "48d0a899b45d0e8aa2e8d449e2a40ae39fd5def2a3168f315bcffc56d4ec256e", func := "sealring/sealringlaw20.EnvelopePrefix", spec := "envelopePrefix", inPlace := ["internal/bytealg.abigen_runtime_cmpstring", "slices.overlaps[sealring/api.Power]"], unfollowed := true, recurses := true, named := ["internal/strconv.uint64pow10", "math/bits.deBruijn32tab", "math/bits.deBruijn64tab"], loops := true, plainKeys := false, apart := false, laid := [("math/bits.deBruijn32tab", laid_math_bits_deBruijn32tab), ("math/bits.deBruijn64tab", laid_math_bits_deBruijn64tab), ("internal/strconv.uint64pow10", laid_internal_strconv_uint64pow10)], narrowed := true }
def EnvelopePrefixUptoSaid : Prop := envelopePrefixUptoRow.holds Tryz.pinned (OpenSpec.upto envelopePrefixSpec)

/-- 'sealringlaw20.EnvelopeSpoil', WHERE WHAT IT READS IS OF BULK AT MOST 1048576: true; the input reads as it did. -/
def envelopeSpoilUptoRow : OpenClaim := { program := "ytinbdcelmgfniaagreatdoor", sum := "48d0a899b45d0e8aa2e8d449e2a40ae39fd5def2a3168f315bcffc56d4ec256e", func := "sealring/sealringlaw20.EnvelopeSpoil", spec := "envelopeSpoil", inPlace := ["internal/bytealg.abigen_runtime_cmpstring", "slices.overlaps[sealring/api.Power]"], unfollowed := true, recurses := true, named := ["internal/strconv.uint64pow10", "math/bits.deBruijn32tab", "math/bits.deBruijn64tab"], plainKeys := false, apart := false, laid := [("math/bits.deBruijn32tab", laid_math_bits_deBruijn32tab), ("math/bits.deBruijn64tab", laid_math_bits_deBruijn64tab), ("internal/strconv.uint64pow10", laid_internal_strconv_uint64pow10)], narrowed := true }
def EnvelopeSpoilUptoSaid : Prop := envelopeSpoilUptoRow.holds Tryz.pinned (OpenSpec.upto envelopeSpoilSpec)

/-- 'sealringlaw20.EnvelopeTags', WHERE WHAT IT READS IS OF BULK AT MOST 1048576: true; the input reads as it did. -/
def envelopeTagsUptoRow : OpenClaim := { program := "ytinbdcelmgfniaagreatdoor", sum := "48d0a899b45d0e8aa2e8d449e2a40ae39fd5def2a3168f315bcffc56d4ec256e", func := "sealring/sealringlaw20.EnvelopeTags", spec := "envelopeTags", inPlace := ["internal/bytealg.abigen_runtime_cmpstring", "slices.overlaps[sealring/api.Power]"], unfollowed := true, recurses := true, named := ["internal/strconv.uint64pow10", "math/bits.deBruijn32tab", "math/bits.deBruijn64tab"], loops := true, plainKeys := false, apart := false, laid := [("math/bits.deBruijn32tab", laid_math_bits_deBruijn32tab), ("math/bits.deBruijn64tab", laid_math_bits_deBruijn64tab), ("internal/strconv.uint64pow10", laid_internal_strconv_uint64pow10)], narrowed := true }
def EnvelopeTagsUptoSaid : Prop := envelopeTagsUptoRow.holds Tryz.pinned (OpenSpec.upto envelopeTagsSpec)

/-- 'sealringlaw20.EnvelopeFits', WHERE WHAT IT READS IS OF BULK AT MOST 1048576: true; the input reads as it did. -/
def envelopeFitsUptoRow : OpenClaim := { program := "ytinbdcelmgfniaagreatdoor", sum := "48d0a899b45d0e8aa2e8d449e2a40ae39fd5def2a3168f315bcffc56d4ec256e", func := "sealring/sealringlaw20.EnvelopeFits", spec := "envelopeFits", inPlace := ["internal/bytealg.abigen_runtime_cmpstring", "slices.overlaps[sealring/api.Power]"], unfollowed := true, recurses := true, named := ["internal/strconv.uint64pow10", "math/bits.deBruijn32tab", "math/bits.deBruijn64tab"], loops := true, plainKeys := false, apart := false, laid := [("math/bits.deBruijn32tab", laid_math_bits_deBruijn32tab), ("math/bits.deBruijn64tab", laid_math_bits_deBruijn64tab), ("internal/strconv.uint64pow10", laid_internal_strconv_uint64pow10)], narrowed := true }
def EnvelopeFitsUptoSaid : Prop := envelopeFitsUptoRow.holds Tryz.pinned (OpenSpec.upto envelopeFitsSpec)

/-- 'sealringlaw20.EnvelopeStrings', WHERE WHAT IT READS IS OF BULK AT MOST 1048576: true; the input reads as it did. -/
def envelopeStringsUptoRow : OpenClaim := { program := "ytinbdcelmgfniaagreatdoor", sum := "48d0a899b45d0e8aa2e8d449e2a40ae39fd5def2a3168f315bcffc56d4ec256e", func := "sealring/sealringlaw20.EnvelopeStrings", spec := "envelopeStrings", inPlace := ["internal/bytealg.abigen_runtime_cmpstring", "slices.overlaps[sealring/api.Power]"], unfollowed := true, recurses := true, named := ["internal/strconv.uint64pow10", "math/bits.deBruijn32tab", "math/bits.deBruijn64tab"], loops := true, plainKeys := false, apart := false, laid := [("math/bits.deBruijn32tab", laid_math_bits_deBruijn32tab), ("math/bits.deBruijn64tab", laid_math_bits_deBruijn64tab), ("internal/strconv.uint64pow10", laid_internal_strconv_uint64pow10)], narrowed := true }
def EnvelopeStringsUptoSaid : Prop := envelopeStringsUptoRow.holds Tryz.pinned (OpenSpec.upto envelopeStringsSpec)

end Rows
end Go.Proofs.YtinbdcelmgfniaaGreatDoor
