/-
  DERIVED. GIVEN WITH THE SEED: THE CARDS: each row of YtdmoogjddmdmbaaGreatDoorRows.lean that lists a variable, with what it lists TIED to the program's text (the seventh form; the later family's looks); each row that meets fmt, with fmt's text TOLD by the authors' own Lean function (tested against real Go, not proved from fmt's source: count such statements apart). THE CARD IS WHAT COUNTS. Prove the row's statement (the work); the ties are given (YtdmoogjddmdmbaaGreatDoorTie.lean); close each card by the builder's one call (the guide's Derived/Test/ToyasCard.lean, 'card_holds'). Laid BY PROGRAM, IN A SANDBOX (cutbox-door.mjs). By AI agents, Wed Nov 11 2026. No macro, syntax, notation, axiom, sorry.
-/
import Derived.Test.YtdmoogjddmdmbaaGreatDoorRows
import GoSem.ClaimSeven
namespace Go.Proofs.YtdmoogjddmdmbaaGreatDoor
namespace Rows

/-- THE TIED CARD OF 'leakresponselaw08.ScanFinds'. -/
def scanFindsCard : Claim7 := { stood := { row := scanFindsRow, standIns := [], harness := (true, "105310f44fc7dc9c240ec21c869e98d4e96843577106512ff9d72452495896e4"), looks := false }, kinds := [], alts := [], laidByText := true, laidKinds := [.data, .data, .data], laidTests := true, laidLooks := .later }
def ScanFindsCardSaid : Prop := Claim7.holds Tryz.pinned (.plain (OpenSpec.ofChange scanFindsSpec)) scanFindsCard

/-- THE TIED CARD OF 'leakresponselaw09.StreamLimits'. -/
def streamLimitsCard : Claim7 := { stood := { row := streamLimitsRow, standIns := [], harness := (true, "105310f44fc7dc9c240ec21c869e98d4e96843577106512ff9d72452495896e4"), looks := false }, kinds := [], alts := [], laidByText := true, laidKinds := [.data, .data, .data], laidTests := true, laidLooks := .later }
def StreamLimitsCardSaid : Prop := Claim7.holds Tryz.pinned (.plain (OpenSpec.ofChange streamLimitsSpec)) streamLimitsCard

/-- THE TIED CARD OF 'leakresponselaw09.StreamEmpty'. -/
def streamEmptyCard : Claim7 := { stood := { row := streamEmptyRow, standIns := [], harness := (true, "105310f44fc7dc9c240ec21c869e98d4e96843577106512ff9d72452495896e4"), looks := false }, kinds := [], alts := [], laidByText := true, laidKinds := [.data, .data, .data], laidTests := true, laidLooks := .later }
def StreamEmptyCardSaid : Prop := Claim7.holds Tryz.pinned (.plain (OpenSpec.ofChange streamEmptySpec)) streamEmptyCard

/-- THE SECOND FORM's CARD OF 'leakresponselaw08.ScanFinds'. -/
def scanFindsUptoCard : Claim7 := { stood := { row := scanFindsUptoRow, standIns := [], harness := (true, "105310f44fc7dc9c240ec21c869e98d4e96843577106512ff9d72452495896e4"), looks := false }, kinds := [], alts := [], laidByText := true, laidKinds := [.data, .data, .data], laidTests := true, laidLooks := .later }
def ScanFindsUptoCardSaid : Prop := Claim7.holds Tryz.pinned (.plain (OpenSpec.upto scanFindsSpec)) scanFindsUptoCard

/-- THE SECOND FORM's CARD OF 'leakresponselaw09.StreamLimits'. -/
def streamLimitsUptoCard : Claim7 := { stood := { row := streamLimitsUptoRow, standIns := [], harness := (true, "105310f44fc7dc9c240ec21c869e98d4e96843577106512ff9d72452495896e4"), looks := false }, kinds := [], alts := [], laidByText := true, laidKinds := [.data, .data, .data], laidTests := true, laidLooks := .later }
def StreamLimitsUptoCardSaid : Prop := Claim7.holds Tryz.pinned (.plain (OpenSpec.upto streamLimitsSpec)) streamLimitsUptoCard

/-- THE SECOND FORM's CARD OF 'leakresponselaw09.StreamEmpty'. -/
def streamEmptyUptoCard : Claim7 := { stood := { row := streamEmptyUptoRow, standIns := [], harness := (true, "105310f44fc7dc9c240ec21c869e98d4e96843577106512ff9d72452495896e4"), looks := false }, kinds := [], alts := [], laidByText := true, laidKinds := [.data, .data, .data], laidTests := true, laidLooks := .later }
def StreamEmptyUptoCardSaid : Prop := Claim7.holds Tryz.pinned (.plain (OpenSpec.upto streamEmptySpec)) streamEmptyUptoCard
end Rows
end Go.Proofs.YtdmoogjddmdmbaaGreatDoor
