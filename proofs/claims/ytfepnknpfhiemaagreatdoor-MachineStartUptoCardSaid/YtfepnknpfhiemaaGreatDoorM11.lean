/- Part 11 of what the proofs stand on: plain functions of the program, and that they are its functions. -/
import Derived.Test.YtfepnknpfhiemaaGreatDoorM1
import Derived.Test.YtfepnknpfhiemaaGreatDoorCards
import Derived.SevenTiedAt
import Derived.KernelRfl
import Derived.Test.YtfepnknpfhiemaaGreatDoorM10
set_option linter.unusedVariables false
set_option linter.unusedSimpArgs false
set_option linter.defProp false
noncomputable section
open Bool renaming false->Y
namespace Go.Proofs.YtfepnknpfhiemaaGreatDoor
def qeC:Y=Tryz.pinned.checked.prog.looks []:=by kernel_rfl
end Go.Proofs.YtfepnknpfhiemaaGreatDoor
