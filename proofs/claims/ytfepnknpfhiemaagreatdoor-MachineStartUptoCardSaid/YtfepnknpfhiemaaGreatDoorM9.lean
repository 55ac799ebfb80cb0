/- Part 9 of what the proofs stand on: plain functions of the program, and that they are its functions. -/
import Derived.Test.YtfepnknpfhiemaaGreatDoorM7
import Derived.Test.YtfepnknpfhiemaaGreatDoorM8
set_option linter.unusedVariables false
set_option linter.unusedSimpArgs false
set_option linter.defProp false
noncomputable section
namespace Go.Proofs.YtfepnknpfhiemaaGreatDoor
open Go.ChangeShapes Go.WideShapes Go.ChangeAt Go.RowKit Go.GxZ
open Go.WideMaps Go.WideElems
open Go.ChangeMaps (setBlock shut_map_nil open_string shut_string keptBut_setBlock frozen?_setBlock heap_setBlock_same)
def Rz:Rows.MachineStartUptoSaid:=
 OpenClaim.holds_of_cond 3 Tryz.f3 rfl rfl rfl rfl rfl rfl rfl ⟨rfl,rfl,rfl,rfl,rfl⟩ rfl rfl rfl rfl rfl (by kernel_rfl) Tryz.func3 qeu
  (bG (by kernel_rfl)) (by unfold Func.isWrapper;first|(rw[af (by decide+kernel)];kernel_rfl)|(rw[ae (by decide+kernel)];exact⟨rfl,rfl⟩))
  (λ c a H b _ F=>by rw[OpenClaim.pre_eq_preRow];exact qef c a H b F)
#print axioms Rz
end Go.Proofs.YtfepnknpfhiemaaGreatDoor
