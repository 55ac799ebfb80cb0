/- MachineStart answers true for every machine, session and number of moderate bulk. The tables of the library that its row lists stand as the program's text lays them: the card ties them. -/

import Derived.Test.YtfepnknpfhiemaaGreatDoorM9
import Derived.Test.YtfepnknpfhiemaaGreatDoorM10
import Derived.Test.YtfepnknpfhiemaaGreatDoorM11
import Derived.Test.YtfepnknpfhiemaaGreatDoorM12
set_option linter.unusedVariables false
set_option linter.unusedSimpArgs false
set_option linter.defProp false
namespace Go.Proofs.YtfepnknpfhiemaaGreatDoor
open Go.ChangeShapes Go.WideShapes Go.ChangeAt Go.RowKit Go.GxZ
open Go.WideMaps Go.WideElems
open Go.ChangeMaps (setBlock shut_map_nil open_string shut_string keptBut_setBlock frozen?_setBlock heap_setBlock_same)
theorem machineStart_card:Rows.MachineStartUptoCardSaid :=
 Claim7.holds_tied_plain_at .later [] [.data,.data,.data] true Rows.machineStartUptoCard.stood.harness false Rz (λ _ h=>by cases h) (by kernel_rfl) (λ _ h=>by cases h) qe8 rfl ⟨rfl,rfl⟩ (by kernel_rfl) rfl
  (λ f fn hf hfn=>by
   obtain rfl:f=3:=Option.some.inj ((show Tryz.prog.funcNamed "sealring/sealringlaw25.MachineStart" = some 3 by kernel_rfl).symm.trans hf) |>.symm
   obtain rfl:fn=Tryz.f3:=(Option.some.inj (Tryz.func3.symm.trans hfn)).symm
   exact ⟨qeC,λ j t ht=>by
    rw [Tryz.params3] at ht
    have hm:t∈[25,28,3]:=by simpa using Array.mem_of_getElem? ht
    have hall:([25,28,3].all λ u => !Tryz.prog.wantsStandIn u)=true:=by kernel_rfl
    exact (show Tryz.prog.wantsStandIn t=false by simpa using List.all_eq_true.1 hall t hm)⟩)
  qeY
end Go.Proofs.YtfepnknpfhiemaaGreatDoor
