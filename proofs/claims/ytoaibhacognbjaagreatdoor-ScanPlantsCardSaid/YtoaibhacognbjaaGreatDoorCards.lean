/-
  DERIVED. GIVEN WITH THE SEED: THE CARDS: each row of YtoaibhacognbjaaGreatDoorRows.lean that lists a variable, with what it lists TIED to the program's text (the seventh form; the later family's looks); each row that meets fmt, with fmt's text TOLD by the authors' own Lean function (tested against real Go, not proved from fmt's source: count such statements apart). THE CARD IS WHAT COUNTS. Prove the row's statement (the work); the ties are given (YtoaibhacognbjaaGreatDoorTie.lean); close each card by the builder's one call (the guide's Derived/Test/ToyasCard.lean, 'card_holds'). Laid BY PROGRAM, IN A SANDBOX (cutbox-door.mjs). By AI agents, Wed Nov 11 2026. No macro, syntax, notation, axiom, sorry.
-/
import Derived.Test.YtoaibhacognbjaaGreatDoorRows
import GoSem.ClaimSeven
namespace Go.Proofs.YtoaibhacognbjaaGreatDoor
namespace Rows

/-- THE TIED CARD OF 'leakresponselaw08.ScanDefinite'. -/
def scanDefiniteCard : Claim7 := { stood := { row := scanDefiniteRow, standIns := [], harness := (true, "3da316ef833efd97474deac3443209a00fc1720f816b3dcbd1866e5bc9df8d17"), looks := false }, kinds := [], alts := [], laidByText := true, laidKinds := [.data, .data, .data], laidTests := true, laidLooks := .later }
def ScanDefiniteCardSaid : Prop := Claim7.holds Tryz.pinned (.plain (OpenSpec.ofChange scanDefiniteSpec)) scanDefiniteCard

/-- THE TIED CARD OF 'leakresponselaw08.ScanChoices'. -/
def scanChoicesCard : Claim7 := { stood := { row := scanChoicesRow, standIns := [], harness := (true, "3da316ef833efd97474deac3443209a00fc1720f816b3dcbd1866e5bc9df8d17"), looks := false }, kinds := [], alts := [], laidByText := true, laidKinds := [.data, .data, .data], laidTests := true, laidLooks := .later }
def ScanChoicesCardSaid : Prop := Claim7.holds Tryz.pinned (.plain (OpenSpec.ofChange scanChoicesSpec)) scanChoicesCard

/-- THE TIED CARD OF 'leakresponselaw08.ScanCovers'. -/
def scanCoversCard : Claim7 := { stood := { row := scanCoversRow, standIns := [], harness := (true, "3da316ef833efd97474deac3443209a00fc1720f816b3dcbd1866e5bc9df8d17"), looks := false }, kinds := [], alts := [], laidByText := true, laidKinds := [.data, .data, .data], laidTests := true, laidLooks := .later }
def ScanCoversCardSaid : Prop := Claim7.holds Tryz.pinned (.plain (OpenSpec.ofChange scanCoversSpec)) scanCoversCard

/-- THE TIED CARD OF 'leakresponselaw08.ScanPlants'. -/
def scanPlantsCard : Claim7 := { stood := { row := scanPlantsRow, standIns := [], harness := (true, "3da316ef833efd97474deac3443209a00fc1720f816b3dcbd1866e5bc9df8d17"), looks := false }, kinds := [], alts := [], laidByText := true, laidKinds := [.data, .data, .data], laidTests := true, laidLooks := .later }
def ScanPlantsCardSaid : Prop := Claim7.holds Tryz.pinned (.plain (OpenSpec.ofChange scanPlantsSpec)) scanPlantsCard

/-- THE TIED CARD OF 'leakresponselaw08.ScanFinds'. -/
def scanFindsCard : Claim7 := { stood := { row := scanFindsRow, standIns := [], harness := (true, "3da316ef833efd97474deac3443209a00fc1720f816b3dcbd1866e5bc9df8d17"), looks := false }, kinds := [], alts := [], laidByText := true, laidKinds := [.data, .data, .data], laidTests := true, laidLooks := .later }
def ScanFindsCardSaid : Prop := Claim7.holds Tryz.pinned (.plain (OpenSpec.ofChange scanFindsSpec)) scanFindsCard

/-- THE TIED CARD OF 'leakresponselaw08.ScanJoins'. -/
def scanJoinsCard : Claim7 := { stood := { row := scanJoinsRow, standIns := [], harness := (true, "3da316ef833efd97474deac3443209a00fc1720f816b3dcbd1866e5bc9df8d17"), looks := false }, kinds := [], alts := [], laidByText := true, laidKinds := [.data, .data, .data], laidTests := true, laidLooks := .later }
def ScanJoinsCardSaid : Prop := Claim7.holds Tryz.pinned (.plain (OpenSpec.ofChange scanJoinsSpec)) scanJoinsCard

/-- THE TIED CARD OF 'leakresponselaw08.ScanShifts'. -/
def scanShiftsCard : Claim7 := { stood := { row := scanShiftsRow, standIns := [], harness := (true, "3da316ef833efd97474deac3443209a00fc1720f816b3dcbd1866e5bc9df8d17"), looks := false }, kinds := [], alts := [], laidByText := true, laidKinds := [.data, .data, .data], laidTests := true, laidLooks := .later }
def ScanShiftsCardSaid : Prop := Claim7.holds Tryz.pinned (.plain (OpenSpec.ofChange scanShiftsSpec)) scanShiftsCard

/-- THE TIED CARD OF 'leakresponselaw08.ScanAll'. -/
def scanAllCard : Claim7 := { stood := { row := scanAllRow, standIns := [], harness := (true, "3da316ef833efd97474deac3443209a00fc1720f816b3dcbd1866e5bc9df8d17"), looks := false }, kinds := [], alts := [], laidByText := true, laidKinds := [.data, .data, .data], laidTests := true, laidLooks := .later }
def ScanAllCardSaid : Prop := Claim7.holds Tryz.pinned (.plain (OpenSpec.ofChange scanAllSpec)) scanAllCard

/-- THE SECOND FORM's CARD OF 'leakresponselaw08.ScanDefinite'. -/
def scanDefiniteUptoCard : Claim7 := { stood := { row := scanDefiniteUptoRow, standIns := [], harness := (true, "3da316ef833efd97474deac3443209a00fc1720f816b3dcbd1866e5bc9df8d17"), looks := false }, kinds := [], alts := [], laidByText := true, laidKinds := [.data, .data, .data], laidTests := true, laidLooks := .later }
def ScanDefiniteUptoCardSaid : Prop := Claim7.holds Tryz.pinned (.plain (OpenSpec.upto scanDefiniteSpec)) scanDefiniteUptoCard

/-- THE SECOND FORM's CARD OF 'leakresponselaw08.ScanChoices'. -/
def scanChoicesUptoCard : Claim7 := { stood := { row := scanChoicesUptoRow, standIns := [], harness := (true, "3da316ef833efd97474deac3443209a00fc1720f816b3dcbd1866e5bc9df8d17"), looks := false }, kinds := [], alts := [], laidByText := true, laidKinds := [.data, .data, .data], laidTests := true, laidLooks := .later }
def ScanChoicesUptoCardSaid : Prop := Claim7.holds Tryz.pinned (.plain (OpenSpec.upto scanChoicesSpec)) scanChoicesUptoCard

/-- THE SECOND FORM's CARD OF 'leakresponselaw08.ScanCovers'. -/
def scanCoversUptoCard : Claim7 := { stood := { row := scanCoversUptoRow, standIns := [], harness := (true, "3da316ef833efd97474deac3443209a00fc1720f816b3dcbd1866e5bc9df8d17"), looks := false }, kinds := [], alts := [], laidByText := true, laidKinds := [.data, .data, .data], laidTests := true, laidLooks := .later }
def ScanCoversUptoCardSaid : Prop := Claim7.holds Tryz.pinned (.plain (OpenSpec.upto scanCoversSpec)) scanCoversUptoCard

/-- THE SECOND FORM's CARD OF 'leakresponselaw08.ScanPlants'. -/
def scanPlantsUptoCard : Claim7 := { stood := { row := scanPlantsUptoRow, standIns := [], harness := (true, "3da316ef833efd97474deac3443209a00fc1720f816b3dcbd1866e5bc9df8d17"), looks := false }, kinds := [], alts := [], laidByText := true, laidKinds := [.data, .data, .data], laidTests := true, laidLooks := .later }
def ScanPlantsUptoCardSaid : Prop := Claim7.holds Tryz.pinned (.plain (OpenSpec.upto scanPlantsSpec)) scanPlantsUptoCard

/-- THE SECOND FORM's CARD OF 'leakresponselaw08.ScanFinds'. -/
def scanFindsUptoCard : Claim7 := { stood := { row := scanFindsUptoRow, standIns := [], harness := (true, "3da316ef833efd97474deac3443209a00fc1720f816b3dcbd1866e5bc9df8d17"), looks := false }, kinds := [], alts := [], laidByText := true, laidKinds := [.data, .data, .data], laidTests := true, laidLooks := .later }
def ScanFindsUptoCardSaid : Prop := Claim7.holds Tryz.pinned (.plain (OpenSpec.upto scanFindsSpec)) scanFindsUptoCard

/-- THE SECOND FORM's CARD OF 'leakresponselaw08.ScanJoins'. -/
def scanJoinsUptoCard : Claim7 := { stood := { row := scanJoinsUptoRow, standIns := [], harness := (true, "3da316ef833efd97474deac3443209a00fc1720f816b3dcbd1866e5bc9df8d17"), looks := false }, kinds := [], alts := [], laidByText := true, laidKinds := [.data, .data, .data], laidTests := true, laidLooks := .later }
def ScanJoinsUptoCardSaid : Prop := Claim7.holds Tryz.pinned (.plain (OpenSpec.upto scanJoinsSpec)) scanJoinsUptoCard

/-- THE SECOND FORM's CARD OF 'leakresponselaw08.ScanShifts'. -/
def scanShiftsUptoCard : Claim7 := { stood := { row := scanShiftsUptoRow, standIns := [], harness := (true, "3da316ef833efd97474deac3443209a00fc1720f816b3dcbd1866e5bc9df8d17"), looks := false }, kinds := [], alts := [], laidByText := true, laidKinds := [.data, .data, .data], laidTests := true, laidLooks := .later }
def ScanShiftsUptoCardSaid : Prop := Claim7.holds Tryz.pinned (.plain (OpenSpec.upto scanShiftsSpec)) scanShiftsUptoCard

/-- THE SECOND FORM's CARD OF 'leakresponselaw08.ScanAll'. -/
def scanAllUptoCard : Claim7 := { stood := { row := scanAllUptoRow, standIns := [], harness := (true, "3da316ef833efd97474deac3443209a00fc1720f816b3dcbd1866e5bc9df8d17"), looks := false }, kinds := [], alts := [], laidByText := true, laidKinds := [.data, .data, .data], laidTests := true, laidLooks := .later }
def ScanAllUptoCardSaid : Prop := Claim7.holds Tryz.pinned (.plain (OpenSpec.upto scanAllSpec)) scanAllUptoCard
end Rows
end Go.Proofs.YtoaibhacognbjaaGreatDoor
