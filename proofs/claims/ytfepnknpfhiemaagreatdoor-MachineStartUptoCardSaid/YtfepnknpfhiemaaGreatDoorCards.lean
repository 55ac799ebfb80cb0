/-
  DERIVED. GIVEN WITH THE SEED: THE CARDS: each row of YtfepnknpfhiemaaGreatDoorRows.lean that lists a variable, with what it lists TIED to the program's text (the seventh form; the later family's looks); each row that meets fmt, with fmt's text TOLD by the authors' own Lean function (tested against real Go, not proved from fmt's source: count such statements apart). THE CARD IS WHAT COUNTS. Prove the row's statement (the work); the ties are given (YtfepnknpfhiemaaGreatDoorTie.lean); close each card by the builder's one call (the guide's Derived/Test/ToyasCard.lean, 'card_holds'). Laid BY PROGRAM, IN A SANDBOX (cutbox-door.mjs). By AI agents, Wed Nov 11 2026. No macro, syntax, notation, axiom, sorry.
-/
import Derived.Test.YtfepnknpfhiemaaGreatDoorRows
import GoSem.ClaimSeven
namespace Go.Proofs.YtfepnknpfhiemaaGreatDoor
namespace Rows

/-- THE TIED CARD OF 'sealringlaw25.MachineStart'. -/
def machineStartCard : Claim7 := { stood := { row := machineStartRow, standIns := [], harness := (true, "436ba647f1d33b7fb20e590f0bab124955918a1123b5d5a362eee68355f2413e"), looks := false }, kinds := [], alts := [], laidByText := true, laidKinds := [.data, .data, .data], laidTests := true, laidLooks := .later }
def MachineStartCardSaid : Prop := Claim7.holds Tryz.pinned (.plain (OpenSpec.ofChange machineStartSpec)) machineStartCard

/-- THE TIED CARD OF 'sealringlaw25.MachineDeliver'. -/
def machineDeliverCard : Claim7 := { stood := { row := machineDeliverRow, standIns := [], harness := (true, "436ba647f1d33b7fb20e590f0bab124955918a1123b5d5a362eee68355f2413e"), looks := false }, kinds := [], alts := [], laidByText := true, laidKinds := [.data, .data, .data], laidTests := true, laidLooks := .later }
def MachineDeliverCardSaid : Prop := Claim7.holds Tryz.pinned (.plain (OpenSpec.ofChange machineDeliverSpec)) machineDeliverCard

/-- THE TIED CARD OF 'sealringlaw25.MachinePlays'. -/
def machinePlaysCard : Claim7 := { stood := { row := machinePlaysRow, standIns := [], harness := (true, "436ba647f1d33b7fb20e590f0bab124955918a1123b5d5a362eee68355f2413e"), looks := false }, kinds := [], alts := [], laidByText := true, laidKinds := [.data, .data, .data], laidTests := true, laidLooks := .later }
def MachinePlaysCardSaid : Prop := Claim7.holds Tryz.pinned (.plain (OpenSpec.ofChange machinePlaysSpec)) machinePlaysCard

/-- THE TIED CARD OF 'sealringlaw25.MachineRefuses'. -/
def machineRefusesCard : Claim7 := { stood := { row := machineRefusesRow, standIns := [], harness := (true, "436ba647f1d33b7fb20e590f0bab124955918a1123b5d5a362eee68355f2413e"), looks := false }, kinds := [], alts := [], laidByText := true, laidKinds := [.data, .data, .data], laidTests := true, laidLooks := .later }
def MachineRefusesCardSaid : Prop := Claim7.holds Tryz.pinned (.plain (OpenSpec.ofChange machineRefusesSpec)) machineRefusesCard

/-- THE TIED CARD OF 'sealringlaw25.MachineApart'. -/
def machineApartCard : Claim7 := { stood := { row := machineApartRow, standIns := [], harness := (true, "436ba647f1d33b7fb20e590f0bab124955918a1123b5d5a362eee68355f2413e"), looks := false }, kinds := [], alts := [], laidByText := true, laidKinds := [.data, .data, .data], laidTests := true, laidLooks := .later }
def MachineApartCardSaid : Prop := Claim7.holds Tryz.pinned (.plain (OpenSpec.ofChange machineApartSpec)) machineApartCard

/-- THE TIED CARD OF 'sealringlaw25.MachineWaits'. -/
def machineWaitsCard : Claim7 := { stood := { row := machineWaitsRow, standIns := [], harness := (true, "436ba647f1d33b7fb20e590f0bab124955918a1123b5d5a362eee68355f2413e"), looks := false }, kinds := [], alts := [], laidByText := true, laidKinds := [.data, .data, .data], laidTests := true, laidLooks := .later }
def MachineWaitsCardSaid : Prop := Claim7.holds Tryz.pinned (.plain (OpenSpec.ofChange machineWaitsSpec)) machineWaitsCard

/-- THE TIED CARD OF 'sealringlaw25.MachineCheck'. -/
def machineCheckCard : Claim7 := { stood := { row := machineCheckRow, standIns := [], harness := (true, "436ba647f1d33b7fb20e590f0bab124955918a1123b5d5a362eee68355f2413e"), looks := false }, kinds := [], alts := [], laidByText := true, laidKinds := [.data, .data, .data], laidTests := true, laidLooks := .later }
def MachineCheckCardSaid : Prop := Claim7.holds Tryz.pinned (.plain (OpenSpec.ofChange machineCheckSpec)) machineCheckCard

/-- THE TIED CARD OF 'sealringlaw25.MachineValid'. -/
def machineValidCard : Claim7 := { stood := { row := machineValidRow, standIns := [], harness := (true, "436ba647f1d33b7fb20e590f0bab124955918a1123b5d5a362eee68355f2413e"), looks := false }, kinds := [], alts := [], laidByText := true, laidKinds := [.data, .data, .data, .widerDeep], laidTests := true, laidLooks := .later }
def MachineValidCardSaid : Prop := Claim7.holds Tryz.pinned (.plain (OpenSpec.ofChange machineValidSpec)) machineValidCard

/-- THE SECOND FORM's CARD OF 'sealringlaw25.MachineStart'. -/
def machineStartUptoCard : Claim7 := { stood := { row := machineStartUptoRow, standIns := [], harness := (true, "436ba647f1d33b7fb20e590f0bab124955918a1123b5d5a362eee68355f2413e"), looks := false }, kinds := [], alts := [], laidByText := true, laidKinds := [.data, .data, .data], laidTests := true, laidLooks := .later }
def MachineStartUptoCardSaid : Prop := Claim7.holds Tryz.pinned (.plain (OpenSpec.upto machineStartSpec)) machineStartUptoCard

/-- THE SECOND FORM's CARD OF 'sealringlaw25.MachineDeliver'. -/
def machineDeliverUptoCard : Claim7 := { stood := { row := machineDeliverUptoRow, standIns := [], harness := (true, "436ba647f1d33b7fb20e590f0bab124955918a1123b5d5a362eee68355f2413e"), looks := false }, kinds := [], alts := [], laidByText := true, laidKinds := [.data, .data, .data], laidTests := true, laidLooks := .later }
def MachineDeliverUptoCardSaid : Prop := Claim7.holds Tryz.pinned (.plain (OpenSpec.upto machineDeliverSpec)) machineDeliverUptoCard

/-- THE SECOND FORM's CARD OF 'sealringlaw25.MachinePlays'. -/
def machinePlaysUptoCard : Claim7 := { stood := { row := machinePlaysUptoRow, standIns := [], harness := (true, "436ba647f1d33b7fb20e590f0bab124955918a1123b5d5a362eee68355f2413e"), looks := false }, kinds := [], alts := [], laidByText := true, laidKinds := [.data, .data, .data], laidTests := true, laidLooks := .later }
def MachinePlaysUptoCardSaid : Prop := Claim7.holds Tryz.pinned (.plain (OpenSpec.upto machinePlaysSpec)) machinePlaysUptoCard

/-- THE SECOND FORM's CARD OF 'sealringlaw25.MachineRefuses'. -/
def machineRefusesUptoCard : Claim7 := { stood := { row := machineRefusesUptoRow, standIns := [], harness := (true, "436ba647f1d33b7fb20e590f0bab124955918a1123b5d5a362eee68355f2413e"), looks := false }, kinds := [], alts := [], laidByText := true, laidKinds := [.data, .data, .data], laidTests := true, laidLooks := .later }
def MachineRefusesUptoCardSaid : Prop := Claim7.holds Tryz.pinned (.plain (OpenSpec.upto machineRefusesSpec)) machineRefusesUptoCard

/-- THE SECOND FORM's CARD OF 'sealringlaw25.MachineApart'. -/
def machineApartUptoCard : Claim7 := { stood := { row := machineApartUptoRow, standIns := [], harness := (true, "436ba647f1d33b7fb20e590f0bab124955918a1123b5d5a362eee68355f2413e"), looks := false }, kinds := [], alts := [], laidByText := true, laidKinds := [.data, .data, .data], laidTests := true, laidLooks := .later }
def MachineApartUptoCardSaid : Prop := Claim7.holds Tryz.pinned (.plain (OpenSpec.upto machineApartSpec)) machineApartUptoCard

/-- THE SECOND FORM's CARD OF 'sealringlaw25.MachineWaits'. -/
def machineWaitsUptoCard : Claim7 := { stood := { row := machineWaitsUptoRow, standIns := [], harness := (true, "436ba647f1d33b7fb20e590f0bab124955918a1123b5d5a362eee68355f2413e"), looks := false }, kinds := [], alts := [], laidByText := true, laidKinds := [.data, .data, .data], laidTests := true, laidLooks := .later }
def MachineWaitsUptoCardSaid : Prop := Claim7.holds Tryz.pinned (.plain (OpenSpec.upto machineWaitsSpec)) machineWaitsUptoCard

/-- THE SECOND FORM's CARD OF 'sealringlaw25.MachineCheck'. -/
def machineCheckUptoCard : Claim7 := { stood := { row := machineCheckUptoRow, standIns := [], harness := (true, "436ba647f1d33b7fb20e590f0bab124955918a1123b5d5a362eee68355f2413e"), looks := false }, kinds := [], alts := [], laidByText := true, laidKinds := [.data, .data, .data], laidTests := true, laidLooks := .later }
def MachineCheckUptoCardSaid : Prop := Claim7.holds Tryz.pinned (.plain (OpenSpec.upto machineCheckSpec)) machineCheckUptoCard

/-- THE SECOND FORM's CARD OF 'sealringlaw25.MachineValid'. -/
def machineValidUptoCard : Claim7 := { stood := { row := machineValidUptoRow, standIns := [], harness := (true, "436ba647f1d33b7fb20e590f0bab124955918a1123b5d5a362eee68355f2413e"), looks := false }, kinds := [], alts := [], laidByText := true, laidKinds := [.data, .data, .data, .widerDeep], laidTests := true, laidLooks := .later }
def MachineValidUptoCardSaid : Prop := Claim7.holds Tryz.pinned (.plain (OpenSpec.upto machineValidSpec)) machineValidUptoCard
end Rows
end Go.Proofs.YtfepnknpfhiemaaGreatDoor
