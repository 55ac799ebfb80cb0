/- Part 10 of what the proofs stand on: plain functions of the program, and that they are its functions. -/
import Derived.Test.YtfepnknpfhiemaaGreatDoorM1
import Derived.Test.YtfepnknpfhiemaaGreatDoorCards
import Derived.LaidByTextLater
import Derived.LaidOnce
import Derived.SevenTiedAt
import Derived.Test.YtfepnknpfhiemaaGreatDoorM9
set_option linter.unusedVariables false
set_option linter.unusedSimpArgs false
set_option linter.defProp false
noncomputable section
open Bool renaming true->O
namespace Go.Proofs.YtfepnknpfhiemaaGreatDoor
set_option maxRecDepth 100000 in
def qe8:Rows.machineStartUptoRow.laidByTextAt .later Tryz.pinned [.data,.data,.data] O:=
 OpenClaim.laidByTextAt_later rfl rfl (Program.laidByTextLater_by_one 24 8 65 (by kernel_rfl) (by kernel_rfl) (by kernel_rfl) (by kernel_rfl) (by kernel_rfl) (by kernel_rfl) (λ _ _=>by kernel_rfl)) (by kernel_rfl)
end Go.Proofs.YtfepnknpfhiemaaGreatDoor
