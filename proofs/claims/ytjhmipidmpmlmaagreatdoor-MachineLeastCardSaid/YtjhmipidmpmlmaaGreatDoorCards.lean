/-
  DERIVED. GIVEN WITH THE SEED: THE CARDS: each row of YtjhmipidmpmlmaaGreatDoorRows.lean that lists a variable, with what it lists TIED to the program's text (the seventh form; the later family's looks); each row that meets fmt, with fmt's text TOLD by the authors' own Lean function (tested against real Go, not proved from fmt's source: count such statements apart). THE CARD IS WHAT COUNTS. Prove the row's statement (the work); the ties are given (YtjhmipidmpmlmaaGreatDoorTie.lean); close each card by the builder's one call (the guide's Derived/Test/ToyasCard.lean, 'card_holds'). Laid BY PROGRAM, IN A SANDBOX (cutbox-door.mjs). By AI agents, Wed Nov 11 2026. No macro, syntax, notation, axiom, sorry.
-/
import Derived.Test.YtjhmipidmpmlmaaGreatDoorRows
import GoSem.ClaimSeven
namespace Go.Proofs.YtjhmipidmpmlmaaGreatDoor
namespace Rows

/-- THE TIED CARD OF 'leakresponselaw06.MachineEqual'. -/
def machineEqualCard : Claim7 := { stood := { row := machineEqualRow, standIns := [], harness := (true, "91db66e4f4650c6622ca1ffce5cd5229a0dedf299eaf484d7e6015e80b0c8c4e"), looks := true }, kinds := [], alts := [], laidByText := true, laidKinds := [.data, .data, .data, .data, .sentinel, .sentinel, .pinned], laidTests := true, laidLooks := .later }
def MachineEqualCardSaid : Prop := Claim7.holds Tryz.pinned (.plain (OpenSpec.ofChange machineEqualSpec)) machineEqualCard

/-- THE TIED CARD OF 'leakresponselaw06.MachineCompiles'. -/
def machineCompilesCard : Claim7 := { stood := { row := machineCompilesRow, standIns := [], harness := (true, "91db66e4f4650c6622ca1ffce5cd5229a0dedf299eaf484d7e6015e80b0c8c4e"), looks := true }, kinds := [], alts := [], laidByText := true, laidKinds := [.data, .data, .data, .data, .sentinel, .sentinel, .pinned], laidTests := true, laidLooks := .later }
def MachineCompilesCardSaid : Prop := Claim7.holds Tryz.pinned (.plain (OpenSpec.ofChange machineCompilesSpec)) machineCompilesCard

/-- THE TIED CARD OF 'leakresponselaw06.MachineLeast'. -/
def machineLeastCard : Claim7 := { stood := { row := machineLeastRow, standIns := [], harness := (true, "91db66e4f4650c6622ca1ffce5cd5229a0dedf299eaf484d7e6015e80b0c8c4e"), looks := true }, kinds := [], alts := [], laidByText := true, laidKinds := [.data, .data, .data, .data, .sentinel, .sentinel, .pinned], laidTests := true, laidLooks := .later }
def MachineLeastCardSaid : Prop := Claim7.holds Tryz.pinned (.plain (OpenSpec.ofChange machineLeastSpec)) machineLeastCard

/-- THE TIED CARD OF 'leakresponselaw06.MachineSmall'. -/
def machineSmallCard : Claim7 := { stood := { row := machineSmallRow, standIns := [], harness := (true, "91db66e4f4650c6622ca1ffce5cd5229a0dedf299eaf484d7e6015e80b0c8c4e"), looks := true }, kinds := [], alts := [], laidByText := true, laidKinds := [.data, .data, .data, .data, .sentinel, .sentinel, .pinned], laidTests := true, laidLooks := .later }
def MachineSmallCardSaid : Prop := Claim7.holds Tryz.pinned (.plain (OpenSpec.ofChange machineSmallSpec)) machineSmallCard

/-- THE TIED CARD OF 'leakresponselaw06.MachineRuns'. -/
def machineRunsCard : Claim7 := { stood := { row := machineRunsRow, standIns := [], harness := (true, "91db66e4f4650c6622ca1ffce5cd5229a0dedf299eaf484d7e6015e80b0c8c4e"), looks := true }, kinds := [], alts := [], laidByText := true, laidKinds := [.data, .data, .data, .data, .sentinel, .sentinel, .pinned], laidTests := true, laidLooks := .later }
def MachineRunsCardSaid : Prop := Claim7.holds Tryz.pinned (.plain (OpenSpec.ofChange machineRunsSpec)) machineRunsCard

/-- THE SECOND FORM's CARD OF 'leakresponselaw06.MachineEqual'. -/
def machineEqualUptoCard : Claim7 := { stood := { row := machineEqualUptoRow, standIns := [], harness := (true, "91db66e4f4650c6622ca1ffce5cd5229a0dedf299eaf484d7e6015e80b0c8c4e"), looks := true }, kinds := [], alts := [], laidByText := true, laidKinds := [.data, .data, .data, .data, .sentinel, .sentinel, .pinned], laidTests := true, laidLooks := .later }
def MachineEqualUptoCardSaid : Prop := Claim7.holds Tryz.pinned (.plain (OpenSpec.upto machineEqualSpec)) machineEqualUptoCard

/-- THE SECOND FORM's CARD OF 'leakresponselaw06.MachineCompiles'. -/
def machineCompilesUptoCard : Claim7 := { stood := { row := machineCompilesUptoRow, standIns := [], harness := (true, "91db66e4f4650c6622ca1ffce5cd5229a0dedf299eaf484d7e6015e80b0c8c4e"), looks := true }, kinds := [], alts := [], laidByText := true, laidKinds := [.data, .data, .data, .data, .sentinel, .sentinel, .pinned], laidTests := true, laidLooks := .later }
def MachineCompilesUptoCardSaid : Prop := Claim7.holds Tryz.pinned (.plain (OpenSpec.upto machineCompilesSpec)) machineCompilesUptoCard

/-- THE SECOND FORM's CARD OF 'leakresponselaw06.MachineLeast'. -/
def machineLeastUptoCard : Claim7 := { stood := { row := machineLeastUptoRow, standIns := [], harness := (true, "91db66e4f4650c6622ca1ffce5cd5229a0dedf299eaf484d7e6015e80b0c8c4e"), looks := true }, kinds := [], alts := [], laidByText := true, laidKinds := [.data, .data, .data, .data, .sentinel, .sentinel, .pinned], laidTests := true, laidLooks := .later }
def MachineLeastUptoCardSaid : Prop := Claim7.holds Tryz.pinned (.plain (OpenSpec.upto machineLeastSpec)) machineLeastUptoCard

/-- THE SECOND FORM's CARD OF 'leakresponselaw06.MachineSmall'. -/
def machineSmallUptoCard : Claim7 := { stood := { row := machineSmallUptoRow, standIns := [], harness := (true, "91db66e4f4650c6622ca1ffce5cd5229a0dedf299eaf484d7e6015e80b0c8c4e"), looks := true }, kinds := [], alts := [], laidByText := true, laidKinds := [.data, .data, .data, .data, .sentinel, .sentinel, .pinned], laidTests := true, laidLooks := .later }
def MachineSmallUptoCardSaid : Prop := Claim7.holds Tryz.pinned (.plain (OpenSpec.upto machineSmallSpec)) machineSmallUptoCard

/-- THE SECOND FORM's CARD OF 'leakresponselaw06.MachineRuns'. -/
def machineRunsUptoCard : Claim7 := { stood := { row := machineRunsUptoRow, standIns := [], harness := (true, "91db66e4f4650c6622ca1ffce5cd5229a0dedf299eaf484d7e6015e80b0c8c4e"), looks := true }, kinds := [], alts := [], laidByText := true, laidKinds := [.data, .data, .data, .data, .sentinel, .sentinel, .pinned], laidTests := true, laidLooks := .later }
def MachineRunsUptoCardSaid : Prop := Claim7.holds Tryz.pinned (.plain (OpenSpec.upto machineRunsSpec)) machineRunsUptoCard
end Rows
end Go.Proofs.YtjhmipidmpmlmaaGreatDoor
