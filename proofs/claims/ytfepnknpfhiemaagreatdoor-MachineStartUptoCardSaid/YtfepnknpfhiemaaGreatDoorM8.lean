/- Part 8 of what the proofs stand on: plain functions of the program, and that they are its functions. -/
import Derived.Test.YtfepnknpfhiemaaGreatDoorM1
import Derived.Test.YtfepnknpfhiemaaGreatDoorRows
import Derived.JoinedCond
import Derived.KernelRfl
import Derived.Test.YtfepnknpfhiemaaGreatDoorM7
set_option linter.unusedVariables false
set_option linter.unusedSimpArgs false
set_option linter.defProp false
noncomputable section
open Bool renaming true->O
namespace Go.Proofs.YtfepnknpfhiemaaGreatDoor
def qeu:joinedFacts Tryz.pinned.checked.prog 3 Tryz.f3 (Rows.OpenSpec.upto Rows.machineStartSpec).bare Rows.machineStartUptoRow=O:=by kernel_rfl
end Go.Proofs.YtfepnknpfhiemaaGreatDoor
