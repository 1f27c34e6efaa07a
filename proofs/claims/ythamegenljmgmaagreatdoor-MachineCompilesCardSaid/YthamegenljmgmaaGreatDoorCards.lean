/-
  DERIVED. GIVEN WITH THE SEED: THE CARDS: each row of YthamegenljmgmaaGreatDoorRows.lean that lists a variable, with what it lists TIED to the program's text (the seventh form; the later family's looks); each row that meets fmt, with fmt's text TOLD by the authors' own Lean function (tested against real Go, not proved from fmt's source: count such statements apart). THE CARD IS WHAT COUNTS. Prove the row's statement (the work); the ties are given (YthamegenljmgmaaGreatDoorTie.lean); close each card by the builder's one call (the guide's Derived/Test/ToyasCard.lean, 'card_holds'). Laid BY PROGRAM, IN A SANDBOX (cutbox-door.mjs). By AI agents, Wed Nov 11 2026. No macro, syntax, notation, axiom, sorry.
-/
import Derived.Test.YthamegenljmgmaaGreatDoorRows
import GoSem.ClaimSeven
namespace Go.Proofs.YthamegenljmgmaaGreatDoor
namespace Rows

/-- THE TIED CARD OF 'leakresponselaw06.MachineCompiles'. -/
def machineCompilesCard : Claim7 := { stood := { row := machineCompilesRow, standIns := [], harness := (true, "aa4b8bd36c2c2816fdd2d9b28a8ed9e1b83d8651783796543e420dcb569a3c83"), looks := true }, kinds := [], alts := [], laidByText := true, laidKinds := [.data, .data, .data, .data, .sentinel, .sentinel, .pinned], laidTests := true, laidLooks := .later }
def MachineCompilesCardSaid : Prop := Claim7.holds Tryz.pinned (.plain (OpenSpec.ofChange machineCompilesSpec)) machineCompilesCard

/-- THE SECOND FORM's CARD OF 'leakresponselaw06.MachineCompiles'. -/
def machineCompilesUptoCard : Claim7 := { stood := { row := machineCompilesUptoRow, standIns := [], harness := (true, "aa4b8bd36c2c2816fdd2d9b28a8ed9e1b83d8651783796543e420dcb569a3c83"), looks := true }, kinds := [], alts := [], laidByText := true, laidKinds := [.data, .data, .data, .data, .sentinel, .sentinel, .pinned], laidTests := true, laidLooks := .later }
def MachineCompilesUptoCardSaid : Prop := Claim7.holds Tryz.pinned (.plain (OpenSpec.upto machineCompilesSpec)) machineCompilesUptoCard
end Rows
end Go.Proofs.YthamegenljmgmaaGreatDoor
