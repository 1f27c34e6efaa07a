/-
  DERIVED. GIVEN WITH THE SEED: THE CARDS: each row of YtadjdkickjjieaaGreatDoorRows.lean that lists a variable, with what it lists TIED to the program's text (the seventh form; the later family's looks); each row that meets fmt, with fmt's text TOLD by the authors' own Lean function (tested against real Go, not proved from fmt's source: count such statements apart). THE CARD IS WHAT COUNTS. Prove the row's statement (the work); the ties are given (YtadjdkickjjieaaGreatDoorTie.lean); close each card by the builder's one call (the guide's Derived/Test/ToyasCard.lean, 'card_holds'). Laid BY PROGRAM, IN A SANDBOX (cutbox-door.mjs). By AI agents, Wed Nov 11 2026. No macro, syntax, notation, axiom, sorry.
-/
import Derived.Test.YtadjdkickjjieaaGreatDoorRows
import GoSem.ClaimSeven
namespace Go.Proofs.YtadjdkickjjieaaGreatDoor
namespace Rows

/-- THE TIED CARD OF 'leakresponselaw08.ScanDefinite'. -/
def scanDefiniteCard : Claim7 := { stood := { row := scanDefiniteRow, standIns := [], harness := (true, "2dae87e91a34aad814c7823093af31a8c4406a4f74c37d492754ca2104092f3b"), looks := false }, kinds := [], alts := [], laidByText := true, laidKinds := [.data, .data, .data], laidTests := true, laidLooks := .later }
def ScanDefiniteCardSaid : Prop := Claim7.holds Tryz.pinned (.plain (OpenSpec.ofChange scanDefiniteSpec)) scanDefiniteCard

/-- THE TIED CARD OF 'leakresponselaw08.ScanFinds'. -/
def scanFindsCard : Claim7 := { stood := { row := scanFindsRow, standIns := [], harness := (true, "2dae87e91a34aad814c7823093af31a8c4406a4f74c37d492754ca2104092f3b"), looks := false }, kinds := [], alts := [], laidByText := true, laidKinds := [.data, .data, .data], laidTests := true, laidLooks := .later }
def ScanFindsCardSaid : Prop := Claim7.holds Tryz.pinned (.plain (OpenSpec.ofChange scanFindsSpec)) scanFindsCard

/-- THE TIED CARD OF 'leakresponselaw09.StreamLimits'. -/
def streamLimitsCard : Claim7 := { stood := { row := streamLimitsRow, standIns := [], harness := (true, "2dae87e91a34aad814c7823093af31a8c4406a4f74c37d492754ca2104092f3b"), looks := false }, kinds := [], alts := [], laidByText := true, laidKinds := [.data, .data, .data], laidTests := true, laidLooks := .later }
def StreamLimitsCardSaid : Prop := Claim7.holds Tryz.pinned (.plain (OpenSpec.ofChange streamLimitsSpec)) streamLimitsCard

/-- THE TIED CARD OF 'leakresponselaw09.StreamEmpty'. -/
def streamEmptyCard : Claim7 := { stood := { row := streamEmptyRow, standIns := [], harness := (true, "2dae87e91a34aad814c7823093af31a8c4406a4f74c37d492754ca2104092f3b"), looks := false }, kinds := [], alts := [], laidByText := true, laidKinds := [.data, .data, .data], laidTests := true, laidLooks := .later }
def StreamEmptyCardSaid : Prop := Claim7.holds Tryz.pinned (.plain (OpenSpec.ofChange streamEmptySpec)) streamEmptyCard

/-- THE SECOND FORM's CARD OF 'leakresponselaw08.ScanDefinite'. -/
def scanDefiniteUptoCard : Claim7 := { stood := { row := scanDefiniteUptoRow, standIns := [], harness := (true, "2dae87e91a34aad814c7823093af31a8c4406a4f74c37d492754ca2104092f3b"), looks := false }, kinds := [], alts := [], laidByText := true, laidKinds := [.data, .data, .data], laidTests := true, laidLooks := .later }
def ScanDefiniteUptoCardSaid : Prop := Claim7.holds Tryz.pinned (.plain (OpenSpec.upto scanDefiniteSpec)) scanDefiniteUptoCard

/-- THE SECOND FORM's CARD OF 'leakresponselaw08.ScanFinds'. -/
def scanFindsUptoCard : Claim7 := { stood := { row := scanFindsUptoRow, standIns := [], harness := (true, "2dae87e91a34aad814c7823093af31a8c4406a4f74c37d492754ca2104092f3b"), looks := false }, kinds := [], alts := [], laidByText := true, laidKinds := [.data, .data, .data], laidTests := true, laidLooks := .later }
def ScanFindsUptoCardSaid : Prop := Claim7.holds Tryz.pinned (.plain (OpenSpec.upto scanFindsSpec)) scanFindsUptoCard

/-- THE SECOND FORM's CARD OF 'leakresponselaw09.StreamLimits'. -/
def streamLimitsUptoCard : Claim7 := { stood := { row := streamLimitsUptoRow, standIns := [], harness := (true, "2dae87e91a34aad814c7823093af31a8c4406a4f74c37d492754ca2104092f3b"), looks := false }, kinds := [], alts := [], laidByText := true, laidKinds := [.data, .data, .data], laidTests := true, laidLooks := .later }
def StreamLimitsUptoCardSaid : Prop := Claim7.holds Tryz.pinned (.plain (OpenSpec.upto streamLimitsSpec)) streamLimitsUptoCard

/-- THE SECOND FORM's CARD OF 'leakresponselaw09.StreamEmpty'. -/
def streamEmptyUptoCard : Claim7 := { stood := { row := streamEmptyUptoRow, standIns := [], harness := (true, "2dae87e91a34aad814c7823093af31a8c4406a4f74c37d492754ca2104092f3b"), looks := false }, kinds := [], alts := [], laidByText := true, laidKinds := [.data, .data, .data], laidTests := true, laidLooks := .later }
def StreamEmptyUptoCardSaid : Prop := Claim7.holds Tryz.pinned (.plain (OpenSpec.upto streamEmptySpec)) streamEmptyUptoCard
end Rows
end Go.Proofs.YtadjdkickjjieaaGreatDoor
