/-
  NARROWER THAN 'FOR EVERY INPUT', by the rows' own cells (each row's printed sentence says how): MachineStart: loops, laid · MachineDeliver: loops, laid · MachinePlays: laid · MachineRefuses: loops, laid · MachineApart: laid · MachineWaits: laid · MachineCheck: loops, laid · MachineValid: loops, laid.
  DERIVED. THE GIVEN ROWS OF THIS SEAT. 8 by the template 'for every input the law returns true; each argument reads behind the call as it read before'; 0 by the template 'total and deterministic' (their statements: YtfepnknpfhiemaaGreatDoorTotals.lean).
  GIVEN WITH THE SEED: the statements are not yours to turn. If you find one false, say at which input.
  Laid BY PROGRAM, IN A SANDBOX (cutbox-rows.mjs): the forced cells as the released guide's own fill.sh prints them over the translation b38525a86ec3f278… (all of the seat's roots in one cut). By AI agents, Wed Nov 11 2026. No macro, syntax, notation, axiom, sorry.
-/
import Derived.Test.YtfepnknpfhiemaaGreatDoorChecked
import GoSem.Claim
import GoSem.ClaimJoined
import GoSem.ClaimMapViews
import Derived.JoinedTies
import Derived.KernelRfl
namespace Go.Proofs.YtfepnknpfhiemaaGreatDoor
/- THE CELL 'sum', in the pinned program and in every row, IS THE sha256 OF THE DUMP (.gsa) THAT YtfepnknpfhiemaaGreatDoorProg.lean LOADS. Nothing in Lean hashes anything: it is a label: what it is worth is what the hold of that sum in a sandbox is worth. -/
noncomputable def Tryz.pinned : Pinned := { name := "ytfepnknpfhiemaagreatdoor", sum := "b38525a86ec3f278989670e5e7e820bac950e18cd239c9d20e0236546bb6e391", checked := Tryz.checked }
namespace Rows
def none {H : Type} : Left H := { results := [], args := [] }

/- WHAT THE LISTED PACKAGE-LEVEL VARIABLES READ AS WHEN THE CALL BEGINS. Each datum BY PROGRAM (the guide's laid-datum.mjs) off the statement by which the dump's own 'gosem.cut.vars' lays the variable. In a bare row this is a premise. The card (YtfepnknpfhiemaaGreatDoorCards.lean) ties it to the program's text. -/
def laid_math_bits_deBruijn32tab {H : Type} : DataW H := .agg [.lit (.int .u8 0), .lit (.int .u8 1), .lit (.int .u8 28), .lit (.int .u8 2), .lit (.int .u8 29), .lit (.int .u8 14), .lit (.int .u8 24), .lit (.int .u8 3), .lit (.int .u8 30), .lit (.int .u8 22), .lit (.int .u8 20), .lit (.int .u8 15), .lit (.int .u8 25), .lit (.int .u8 17), .lit (.int .u8 4), .lit (.int .u8 8), .lit (.int .u8 31), .lit (.int .u8 27), .lit (.int .u8 13), .lit (.int .u8 23), .lit (.int .u8 21), .lit (.int .u8 19), .lit (.int .u8 16), .lit (.int .u8 7), .lit (.int .u8 26), .lit (.int .u8 12), .lit (.int .u8 18), .lit (.int .u8 6), .lit (.int .u8 11), .lit (.int .u8 5), .lit (.int .u8 10), .lit (.int .u8 9)]
def laid_math_bits_deBruijn64tab {H : Type} : DataW H := .agg [.lit (.int .u8 0), .lit (.int .u8 1), .lit (.int .u8 56), .lit (.int .u8 2), .lit (.int .u8 57), .lit (.int .u8 49), .lit (.int .u8 28), .lit (.int .u8 3), .lit (.int .u8 61), .lit (.int .u8 58), .lit (.int .u8 42), .lit (.int .u8 50), .lit (.int .u8 38), .lit (.int .u8 29), .lit (.int .u8 17), .lit (.int .u8 4), .lit (.int .u8 62), .lit (.int .u8 47), .lit (.int .u8 59), .lit (.int .u8 36), .lit (.int .u8 45), .lit (.int .u8 43), .lit (.int .u8 51), .lit (.int .u8 22), .lit (.int .u8 53), .lit (.int .u8 39), .lit (.int .u8 33), .lit (.int .u8 30), .lit (.int .u8 24), .lit (.int .u8 18), .lit (.int .u8 12), .lit (.int .u8 5), .lit (.int .u8 63), .lit (.int .u8 55), .lit (.int .u8 48), .lit (.int .u8 27), .lit (.int .u8 60), .lit (.int .u8 41), .lit (.int .u8 37), .lit (.int .u8 16), .lit (.int .u8 46), .lit (.int .u8 35), .lit (.int .u8 44), .lit (.int .u8 21), .lit (.int .u8 52), .lit (.int .u8 32), .lit (.int .u8 23), .lit (.int .u8 11), .lit (.int .u8 54), .lit (.int .u8 26), .lit (.int .u8 40), .lit (.int .u8 15), .lit (.int .u8 34), .lit (.int .u8 20), .lit (.int .u8 31), .lit (.int .u8 10), .lit (.int .u8 25), .lit (.int .u8 14), .lit (.int .u8 19), .lit (.int .u8 9), .lit (.int .u8 13), .lit (.int .u8 8), .lit (.int .u8 7), .lit (.int .u8 6)]
def laid_internal_strconv_uint64pow10 {H : Type} : DataW H := .agg [.lit (.int .u64 1), .lit (.int .u64 10), .lit (.int .u64 100), .lit (.int .u64 1000), .lit (.int .u64 10000), .lit (.int .u64 100000), .lit (.int .u64 1000000), .lit (.int .u64 10000000), .lit (.int .u64 100000000), .lit (.int .u64 1000000000), .lit (.int .u64 10000000000), .lit (.int .u64 100000000000), .lit (.int .u64 1000000000000), .lit (.int .u64 10000000000000), .lit (.int .u64 100000000000000), .lit (.int .u64 1000000000000000), .lit (.int .u64 10000000000000000), .lit (.int .u64 100000000000000000), .lit (.int .u64 1000000000000000000), .lit (.int .u64 10000000000000000000)]
def laid_sealring_term_words {H : Type} : DataW H := .slice [.lit (.string [97, 110, 121]), .lit (.string [97, 103, 101, 110, 116]), .lit (.string [110, 111, 110, 99, 101]), .lit (.string [107, 101, 121]), .lit (.string [100, 97, 116, 97]), .lit (.string [116, 97, 103])] []

/-- 'sealringlaw25.MachineStart': WHATEVER THE INPUT: true; the input reads as it did. -/
def machineStartSpec : ChangeSpec := { name := "machineStart", fn := fun _ => fun
  | [d1, d2, d3] => { results := [.lit (.bool true)], args := [d1, d2, d3] }
  | _ => none }
def machineStartRow : OpenClaim := { program := "ytfepnknpfhiemaagreatdoor", sum := "b38525a86ec3f278989670e5e7e820bac950e18cd239c9d20e0236546bb6e391", func := "sealring/sealringlaw25.MachineStart", spec := "machineStart", inPlace := ["internal/bytealg.abigen_runtime_cmpstring", "slices.overlaps[sealring/api.Power]"], unfollowed := true, recurses := true, named := ["internal/strconv.uint64pow10", "math/bits.deBruijn32tab", "math/bits.deBruijn64tab"], loops := true, plainKeys := false, apart := false, laid := [("math/bits.deBruijn32tab", laid_math_bits_deBruijn32tab), ("math/bits.deBruijn64tab", laid_math_bits_deBruijn64tab), ("internal/strconv.uint64pow10", laid_internal_strconv_uint64pow10)] }
def MachineStartSaid : Prop := machineStartRow.holds Tryz.pinned (OpenSpec.ofChange machineStartSpec)

/-- ITS FALSE NEIGHBOUR: 'it returns false'. Refute it at one input. -/
def machineStartWrong : ChangeSpec := { name := "machineStart", fn := fun _ => fun
  | [d1, d2, d3] => { results := [.lit (.bool false)], args := [d1, d2, d3] }
  | _ => none }
def MachineStartWrongFalsely : Prop := machineStartRow.holds Tryz.pinned (OpenSpec.ofChange machineStartWrong)

/-- 'sealringlaw25.MachineDeliver': WHATEVER THE INPUT: true; the input reads as it did. -/
def machineDeliverSpec : ChangeSpec := { name := "machineDeliver", fn := fun _ => fun
  | [d1, d2, d3] => { results := [.lit (.bool true)], args := [d1, d2, d3] }
  | _ => none }
def machineDeliverRow : OpenClaim := { program := "ytfepnknpfhiemaagreatdoor", sum := "b38525a86ec3f278989670e5e7e820bac950e18cd239c9d20e0236546bb6e391", func := "sealring/sealringlaw25.MachineDeliver", spec := "machineDeliver", inPlace := ["internal/bytealg.abigen_runtime_cmpstring", "slices.overlaps[sealring/api.Power]"], unfollowed := true, recurses := true, named := ["internal/strconv.uint64pow10", "math/bits.deBruijn32tab", "math/bits.deBruijn64tab"], loops := true, plainKeys := false, apart := false, laid := [("math/bits.deBruijn32tab", laid_math_bits_deBruijn32tab), ("math/bits.deBruijn64tab", laid_math_bits_deBruijn64tab), ("internal/strconv.uint64pow10", laid_internal_strconv_uint64pow10)] }
def MachineDeliverSaid : Prop := machineDeliverRow.holds Tryz.pinned (OpenSpec.ofChange machineDeliverSpec)

/-- ITS FALSE NEIGHBOUR: 'it returns false'. Refute it at one input. -/
def machineDeliverWrong : ChangeSpec := { name := "machineDeliver", fn := fun _ => fun
  | [d1, d2, d3] => { results := [.lit (.bool false)], args := [d1, d2, d3] }
  | _ => none }
def MachineDeliverWrongFalsely : Prop := machineDeliverRow.holds Tryz.pinned (OpenSpec.ofChange machineDeliverWrong)

/-- 'sealringlaw25.MachinePlays': WHATEVER THE INPUT: true; the input reads as it did. -/
def machinePlaysSpec : ChangeSpec := { name := "machinePlays", fn := fun _ => fun
  | [d1, d2] => { results := [.lit (.bool true)], args := [d1, d2] }
  | _ => none }
def machinePlaysRow : OpenClaim := { program := "ytfepnknpfhiemaagreatdoor", sum := "b38525a86ec3f278989670e5e7e820bac950e18cd239c9d20e0236546bb6e391", func := "sealring/sealringlaw25.MachinePlays", spec := "machinePlays", inPlace := ["internal/bytealg.abigen_runtime_cmpstring", "slices.overlaps[sealring/api.Power]"], unfollowed := true, recurses := true, named := ["internal/strconv.uint64pow10", "math/bits.deBruijn32tab", "math/bits.deBruijn64tab"], plainKeys := false, apart := false, laid := [("math/bits.deBruijn32tab", laid_math_bits_deBruijn32tab), ("math/bits.deBruijn64tab", laid_math_bits_deBruijn64tab), ("internal/strconv.uint64pow10", laid_internal_strconv_uint64pow10)] }
def MachinePlaysSaid : Prop := machinePlaysRow.holds Tryz.pinned (OpenSpec.ofChange machinePlaysSpec)

/-- ITS FALSE NEIGHBOUR: 'it returns false'. Refute it at one input. -/
def machinePlaysWrong : ChangeSpec := { name := "machinePlays", fn := fun _ => fun
  | [d1, d2] => { results := [.lit (.bool false)], args := [d1, d2] }
  | _ => none }
def MachinePlaysWrongFalsely : Prop := machinePlaysRow.holds Tryz.pinned (OpenSpec.ofChange machinePlaysWrong)

/-- 'sealringlaw25.MachineRefuses': WHATEVER THE INPUT: true; the input reads as it did. -/
def machineRefusesSpec : ChangeSpec := { name := "machineRefuses", fn := fun _ => fun
  | [d1, d2, d3] => { results := [.lit (.bool true)], args := [d1, d2, d3] }
  | _ => none }
def machineRefusesRow : OpenClaim := { program := "ytfepnknpfhiemaagreatdoor", sum := "b38525a86ec3f278989670e5e7e820bac950e18cd239c9d20e0236546bb6e391", func := "sealring/sealringlaw25.MachineRefuses", spec := "machineRefuses", inPlace := ["internal/bytealg.abigen_runtime_cmpstring", "slices.overlaps[sealring/api.Power]"], unfollowed := true, recurses := true, named := ["internal/strconv.uint64pow10", "math/bits.deBruijn32tab", "math/bits.deBruijn64tab"], loops := true, plainKeys := false, apart := false, laid := [("math/bits.deBruijn32tab", laid_math_bits_deBruijn32tab), ("math/bits.deBruijn64tab", laid_math_bits_deBruijn64tab), ("internal/strconv.uint64pow10", laid_internal_strconv_uint64pow10)] }
def MachineRefusesSaid : Prop := machineRefusesRow.holds Tryz.pinned (OpenSpec.ofChange machineRefusesSpec)

/-- ITS FALSE NEIGHBOUR: 'it returns false'. Refute it at one input. -/
def machineRefusesWrong : ChangeSpec := { name := "machineRefuses", fn := fun _ => fun
  | [d1, d2, d3] => { results := [.lit (.bool false)], args := [d1, d2, d3] }
  | _ => none }
def MachineRefusesWrongFalsely : Prop := machineRefusesRow.holds Tryz.pinned (OpenSpec.ofChange machineRefusesWrong)

/-- 'sealringlaw25.MachineApart': WHATEVER THE INPUT: true; the input reads as it did. -/
def machineApartSpec : ChangeSpec := { name := "machineApart", fn := fun _ => fun
  | [d1, d2] => { results := [.lit (.bool true)], args := [d1, d2] }
  | _ => none }
def machineApartRow : OpenClaim := { program := "ytfepnknpfhiemaagreatdoor", sum := "b38525a86ec3f278989670e5e7e820bac950e18cd239c9d20e0236546bb6e391", func := "sealring/sealringlaw25.MachineApart", spec := "machineApart", inPlace := ["internal/bytealg.abigen_runtime_cmpstring", "slices.overlaps[sealring/api.Power]"], unfollowed := true, recurses := true, named := ["internal/strconv.uint64pow10", "math/bits.deBruijn32tab", "math/bits.deBruijn64tab"], plainKeys := false, apart := false, laid := [("math/bits.deBruijn32tab", laid_math_bits_deBruijn32tab), ("math/bits.deBruijn64tab", laid_math_bits_deBruijn64tab), ("internal/strconv.uint64pow10", laid_internal_strconv_uint64pow10)] }
def MachineApartSaid : Prop := machineApartRow.holds Tryz.pinned (OpenSpec.ofChange machineApartSpec)

/-- ITS FALSE NEIGHBOUR: 'it returns false'. Refute it at one input. -/
def machineApartWrong : ChangeSpec := { name := "machineApart", fn := fun _ => fun
  | [d1, d2] => { results := [.lit (.bool false)], args := [d1, d2] }
  | _ => none }
def MachineApartWrongFalsely : Prop := machineApartRow.holds Tryz.pinned (OpenSpec.ofChange machineApartWrong)

/-- 'sealringlaw25.MachineWaits': WHATEVER THE INPUT: true; the input reads as it did. -/
def machineWaitsSpec : ChangeSpec := { name := "machineWaits", fn := fun _ => fun
  | [d1, d2] => { results := [.lit (.bool true)], args := [d1, d2] }
  | _ => none }
def machineWaitsRow : OpenClaim := { program := "ytfepnknpfhiemaagreatdoor", sum := "b38525a86ec3f278989670e5e7e820bac950e18cd239c9d20e0236546bb6e391", func := "sealring/sealringlaw25.MachineWaits", spec := "machineWaits", inPlace := ["internal/bytealg.abigen_runtime_cmpstring", "slices.overlaps[sealring/api.Power]"], unfollowed := true, recurses := true, named := ["internal/strconv.uint64pow10", "math/bits.deBruijn32tab", "math/bits.deBruijn64tab"], plainKeys := false, apart := false, laid := [("math/bits.deBruijn32tab", laid_math_bits_deBruijn32tab), ("math/bits.deBruijn64tab", laid_math_bits_deBruijn64tab), ("internal/strconv.uint64pow10", laid_internal_strconv_uint64pow10)] }
def MachineWaitsSaid : Prop := machineWaitsRow.holds Tryz.pinned (OpenSpec.ofChange machineWaitsSpec)

/-- ITS FALSE NEIGHBOUR: 'it returns false'. Refute it at one input. -/
def machineWaitsWrong : ChangeSpec := { name := "machineWaits", fn := fun _ => fun
  | [d1, d2] => { results := [.lit (.bool false)], args := [d1, d2] }
  | _ => none }
def MachineWaitsWrongFalsely : Prop := machineWaitsRow.holds Tryz.pinned (OpenSpec.ofChange machineWaitsWrong)

/-- 'sealringlaw25.MachineCheck': WHATEVER THE INPUT: true; the input reads as it did. -/
def machineCheckSpec : ChangeSpec := { name := "machineCheck", fn := fun _ => fun
  | [d1, d2] => { results := [.lit (.bool true)], args := [d1, d2] }
  | _ => none }
def machineCheckRow : OpenClaim := { program := "ytfepnknpfhiemaagreatdoor", sum := "b38525a86ec3f278989670e5e7e820bac950e18cd239c9d20e0236546bb6e391", func := "sealring/sealringlaw25.MachineCheck", spec := "machineCheck", inPlace := ["internal/bytealg.abigen_runtime_cmpstring", "slices.overlaps[sealring/api.Power]"], unfollowed := true, recurses := true, named := ["internal/strconv.uint64pow10", "math/bits.deBruijn32tab", "math/bits.deBruijn64tab"], loops := true, plainKeys := false, apart := false, laid := [("math/bits.deBruijn32tab", laid_math_bits_deBruijn32tab), ("math/bits.deBruijn64tab", laid_math_bits_deBruijn64tab), ("internal/strconv.uint64pow10", laid_internal_strconv_uint64pow10)] }
def MachineCheckSaid : Prop := machineCheckRow.holds Tryz.pinned (OpenSpec.ofChange machineCheckSpec)

/-- ITS FALSE NEIGHBOUR: 'it returns false'. Refute it at one input. -/
def machineCheckWrong : ChangeSpec := { name := "machineCheck", fn := fun _ => fun
  | [d1, d2] => { results := [.lit (.bool false)], args := [d1, d2] }
  | _ => none }
def MachineCheckWrongFalsely : Prop := machineCheckRow.holds Tryz.pinned (OpenSpec.ofChange machineCheckWrong)

/-- 'sealringlaw25.MachineValid': WHATEVER THE INPUT: true; the input reads as it did. -/
def machineValidSpec : ChangeSpec := { name := "machineValid", fn := fun _ => fun
  | [d] => { results := [.lit (.bool true)], args := [d] }
  | _ => none }
def machineValidRow : OpenClaim := { program := "ytfepnknpfhiemaagreatdoor", sum := "b38525a86ec3f278989670e5e7e820bac950e18cd239c9d20e0236546bb6e391", func := "sealring/sealringlaw25.MachineValid", spec := "machineValid", inPlace := ["internal/bytealg.abigen_runtime_cmpstring", "slices.overlaps[sealring/api.Power]", "internal/abi.NoEscape"], unfollowed := true, recurses := true, named := ["internal/strconv.uint64pow10", "math/bits.deBruijn32tab", "math/bits.deBruijn64tab", "sealring/term.words"], loops := true, plainKeys := false, apart := false, laid := [("math/bits.deBruijn32tab", laid_math_bits_deBruijn32tab), ("math/bits.deBruijn64tab", laid_math_bits_deBruijn64tab), ("internal/strconv.uint64pow10", laid_internal_strconv_uint64pow10), ("sealring/term.words", laid_sealring_term_words)] }
def MachineValidSaid : Prop := machineValidRow.holds Tryz.pinned (OpenSpec.ofChange machineValidSpec)

/-- ITS FALSE NEIGHBOUR: 'it returns false'. Refute it at one input. -/
def machineValidWrong : ChangeSpec := { name := "machineValid", fn := fun _ => fun
  | [d] => { results := [.lit (.bool false)], args := [d] }
  | _ => none }
def MachineValidWrongFalsely : Prop := machineValidRow.holds Tryz.pinned (OpenSpec.ofChange machineValidWrong)

/- THE SECOND FORM. 'bulk': how many values and letters a reading holds, each counted each time it is reached (what is shared counts as often as it is met; a slice's spare places count too). A statement '..UptoSaid' is the law's where the arguments, and the package variables that the reading takes, are together of bulk at most 1048576: NARROWER than '..Said'. Prove '..Said' where nothing that the law and all that it calls make is longer than what came in: it says more and counts as full. Else prove '..UptoSaid'. A law counts once. -/
mutual
def uptoBulk {H : Type} : DataW H → Nat
  | .lit (.string bytes) => bytes.length + 1
  | .lit _ => 1
  | .nil => 1
  | .ptr d => uptoBulk d + 1
  | .slice elems spare => uptoBulkAll elems + uptoBulkAll spare + 1
  | .agg parts => uptoBulkAll parts + 1
  | .iface _ d => uptoBulk d + 1
  | .map entries => uptoBulkEntries entries + 1
  | .held _ => 1
def uptoBulkAll {H : Type} : List (DataW H) → Nat
  | [] => 0
  | d :: r => uptoBulk d + uptoBulkAll r
def uptoBulkEntries {H : Type} : List (Lit × DataW H) → Nat
  | [] => 0
  | x :: r => uptoBulkEntry x + uptoBulkEntries r
def uptoBulkEntry {H : Type} : Lit × DataW H → Nat
  | (.string bytes, d) => bytes.length + uptoBulk d + 1
  | (_, d) => uptoBulk d + 1
 end
def uptoSmall : (H : Type) → List (DataW H) → Bool := fun _ ds => decide (uptoBulkAll ds ≤ 1048576)
def OpenSpec.upto (s : _root_.Go.ChangeSpec) : _root_.Go.OpenSpec := { _root_.Go.OpenSpec.ofChange s with cond := some uptoSmall }

/-- 'sealringlaw25.MachineStart', WHERE WHAT IT READS IS OF BULK AT MOST 1048576: true; the input reads as it did. -/
def machineStartUptoRow : OpenClaim := { program := "ytfepnknpfhiemaagreatdoor", sum := "b38525a86ec3f278989670e5e7e820bac950e18cd239c9d20e0236546bb6e391", func := "sealring/sealringlaw25.MachineStart", spec := "machineStart", inPlace := ["internal/bytealg.abigen_runtime_cmpstring", "slices.overlaps[sealring/api.Power]"], unfollowed := true, recurses := true, named := ["internal/strconv.uint64pow10", "math/bits.deBruijn32tab", "math/bits.deBruijn64tab"], loops := true, plainKeys := false, apart := false, laid := [("math/bits.deBruijn32tab", laid_math_bits_deBruijn32tab), ("math/bits.deBruijn64tab", laid_math_bits_deBruijn64tab), ("internal/strconv.uint64pow10", laid_internal_strconv_uint64pow10)], narrowed := true }
def MachineStartUptoSaid : Prop := machineStartUptoRow.holds Tryz.pinned (OpenSpec.upto machineStartSpec)

/-- 'sealringlaw25.MachineDeliver', WHERE WHAT IT READS IS OF BULK AT MOST 1048576: true; the input reads as it did. -/
def machineDeliverUptoRow : OpenClaim := { program := "ytfepnknpfhiemaagreatdoor", sum := "b38525a86ec3f278989670e5e7e820bac950e18cd239c9d20e0236546bb6e391", func := "sealring/sealringlaw25.MachineDeliver", spec := "machineDeliver", inPlace := ["internal/bytealg.abigen_runtime_cmpstring", "slices.overlaps[sealring/api.Power]"], unfollowed := true, recurses := true, named := ["internal/strconv.uint64pow10", "math/bits.deBruijn32tab", "math/bits.deBruijn64tab"], loops := true, plainKeys := false, apart := false, laid := [("math/bits.deBruijn32tab", laid_math_bits_deBruijn32tab), ("math/bits.deBruijn64tab", laid_math_bits_deBruijn64tab), ("internal/strconv.uint64pow10", laid_internal_strconv_uint64pow10)], narrowed := true }
def MachineDeliverUptoSaid : Prop := machineDeliverUptoRow.holds Tryz.pinned (OpenSpec.upto machineDeliverSpec)

/-- 'sealringlaw25.MachinePlays', WHERE WHAT IT READS IS OF BULK AT MOST 1048576: true; the input reads as it did. -/
def machinePlaysUptoRow : OpenClaim := { program := "ytfepnknpfhiemaagreatdoor", sum := "b38525a86ec3f278989670e5e7e820bac950e18cd239c9d20e0236546bb6e391", func := "sealring/sealringlaw25.MachinePlays", spec := "machinePlays", inPlace := ["internal/bytealg.abigen_runtime_cmpstring", "slices.overlaps[sealring/api.Power]"], unfollowed := true, recurses := true, named := ["internal/strconv.uint64pow10", "math/bits.deBruijn32tab", "math/bits.deBruijn64tab"], plainKeys := false, apart := false, laid := [("math/bits.deBruijn32tab", laid_math_bits_deBruijn32tab), ("math/bits.deBruijn64tab", laid_math_bits_deBruijn64tab), ("internal/strconv.uint64pow10", laid_internal_strconv_uint64pow10)], narrowed := true }
def MachinePlaysUptoSaid : Prop := machinePlaysUptoRow.holds Tryz.pinned (OpenSpec.upto machinePlaysSpec)

/-- 'sealringlaw25.MachineRefuses', WHERE WHAT IT READS IS OF BULK AT MOST 1048576: true; the input reads as it did. -/
def machineRefusesUptoRow : OpenClaim := { program := "ytfepnknpfhiemaagreatdoor", sum := "b38525a86ec3f278989670e5e7e820bac950e18cd239c9d20e0236546bb6e391", func := "sealring/sealringlaw25.MachineRefuses", spec := "machineRefuses", inPlace := ["internal/bytealg.abigen_runtime_cmpstring", "slices.overlaps[sealring/api.Power]"], unfollowed := true, recurses := true, named := ["internal/strconv.uint64pow10", "math/bits.deBruijn32tab", "math/bits.deBruijn64tab"], loops := true, plainKeys := false, apart := false, laid := [("math/bits.deBruijn32tab", laid_math_bits_deBruijn32tab), ("math/bits.deBruijn64tab", laid_math_bits_deBruijn64tab), ("internal/strconv.uint64pow10", laid_internal_strconv_uint64pow10)], narrowed := true }
def MachineRefusesUptoSaid : Prop := machineRefusesUptoRow.holds Tryz.pinned (OpenSpec.upto machineRefusesSpec)

/-- 'sealringlaw25.MachineApart', WHERE WHAT IT READS IS OF BULK AT MOST 1048576: true; the input reads as it did. -/
def machineApartUptoRow : OpenClaim := { program := "ytfepnknpfhiemaagreatdoor", sum := "b38525a86ec3f278989670e5e7e820bac950e18cd239c9d20e0236546bb6e391", func := "sealring/sealringlaw25.MachineApart", spec := "machineApart", inPlace := ["internal/bytealg.abigen_runtime_cmpstring", "slices.overlaps[sealring/api.Power]"], unfollowed := true, recurses := true, named := ["internal/strconv.uint64pow10", "math/bits.deBruijn32tab", "math/bits.deBruijn64tab"], plainKeys := false, apart := false, laid := [("math/bits.deBruijn32tab", laid_math_bits_deBruijn32tab), ("math/bits.deBruijn64tab", laid_math_bits_deBruijn64tab), ("internal/strconv.uint64pow10", laid_internal_strconv_uint64pow10)], narrowed := true }
def MachineApartUptoSaid : Prop := machineApartUptoRow.holds Tryz.pinned (OpenSpec.upto machineApartSpec)

/-- 'sealringlaw25.MachineWaits', WHERE WHAT IT READS IS OF BULK AT MOST 1048576: true; the input reads as it did. -/
def machineWaitsUptoRow : OpenClaim := { program := "ytfepnknpfhiemaagreatdoor", sum := "b38525a86ec3f278989670e5e7e820bac950e18cd239c9d20e0236546bb6e391", func := "sealring/sealringlaw25.MachineWaits", spec := "machineWaits", inPlace := ["internal/bytealg.abigen_runtime_cmpstring", "slices.overlaps[sealring/api.Power]"], unfollowed := true, recurses := true, named := ["internal/strconv.uint64pow10", "math/bits.deBruijn32tab", "math/bits.deBruijn64tab"], plainKeys := false, apart := false, laid := [("math/bits.deBruijn32tab", laid_math_bits_deBruijn32tab), ("math/bits.deBruijn64tab", laid_math_bits_deBruijn64tab), ("internal/strconv.uint64pow10", laid_internal_strconv_uint64pow10)], narrowed := true }
def MachineWaitsUptoSaid : Prop := machineWaitsUptoRow.holds Tryz.pinned (OpenSpec.upto machineWaitsSpec)

/-- 'sealringlaw25.MachineCheck', WHERE WHAT IT READS IS OF BULK AT MOST 1048576: true; the input reads as it did. -/
def machineCheckUptoRow : OpenClaim := { program := "ytfepnknpfhiemaagreatdoor", sum := "b38525a86ec3f278989670e5e7e820bac950e18cd239c9d20e0236546bb6e391", func := "sealring/sealringlaw25.MachineCheck", spec := "machineCheck", inPlace := ["internal/bytealg.abigen_runtime_cmpstring", "slices.overlaps[sealring/api.Power]"], unfollowed := true, recurses := true, named := ["internal/strconv.uint64pow10", "math/bits.deBruijn32tab", "math/bits.deBruijn64tab"], loops := true, plainKeys := false, apart := false, laid := [("math/bits.deBruijn32tab", laid_math_bits_deBruijn32tab), ("math/bits.deBruijn64tab", laid_math_bits_deBruijn64tab), ("internal/strconv.uint64pow10", laid_internal_strconv_uint64pow10)], narrowed := true }
def MachineCheckUptoSaid : Prop := machineCheckUptoRow.holds Tryz.pinned (OpenSpec.upto machineCheckSpec)

/-- 'sealringlaw25.MachineValid', WHERE WHAT IT READS IS OF BULK AT MOST 1048576: true; the input reads as it did. -/
def machineValidUptoRow : OpenClaim := { program := "ytfepnknpfhiemaagreatdoor", sum := "b38525a86ec3f278989670e5e7e820bac950e18cd239c9d20e0236546bb6e391", func := "sealring/sealringlaw25.MachineValid", spec := "machineValid", inPlace := ["internal/bytealg.abigen_runtime_cmpstring", "slices.overlaps[sealring/api.Power]", "internal/abi.NoEscape"], unfollowed := true, recurses := true, named := ["internal/strconv.uint64pow10", "math/bits.deBruijn32tab", "math/bits.deBruijn64tab", "sealring/term.words"], loops := true, plainKeys := false, apart := false, laid := [("math/bits.deBruijn32tab", laid_math_bits_deBruijn32tab), ("math/bits.deBruijn64tab", laid_math_bits_deBruijn64tab), ("internal/strconv.uint64pow10", laid_internal_strconv_uint64pow10), ("sealring/term.words", laid_sealring_term_words)], narrowed := true }
def MachineValidUptoSaid : Prop := machineValidUptoRow.holds Tryz.pinned (OpenSpec.upto machineValidSpec)

end Rows
end Go.Proofs.YtfepnknpfhiemaaGreatDoor
