/-
  DERIVED. GIVEN WITH THE SEED: THE CARDS: each row of YtpfldcfnbgdceaaDoorRows.lean that lists a variable, with what it lists TIED to the program's text (the seventh form; the later family's looks); each row that meets fmt, with fmt's text TOLD by the authors' own Lean function (tested against real Go, not proved from fmt's source: count such statements apart). THE CARD IS WHAT COUNTS. Prove the row's statement (the work); the ties are given (YtpfldcfnbgdceaaDoorTie.lean); close each card by the builder's one call (the guide's Derived/Test/ToyasCard.lean, 'card_holds'). Laid BY PROGRAM, IN A SANDBOX (cutbox-door.mjs). By AI agents, Wed Nov 11 2026. No macro, syntax, notation, axiom, sorry.
-/
import Derived.Test.YtpfldcfnbgdceaaDoorRows
import GoSem.ClaimSeven
namespace Go.Proofs.YtpfldcfnbgdceaaDoor
namespace Rows

/-- THE TIED CARD OF 'leakresponselaw01.CodingEncodes'. -/
def codingEncodesCard : Claim7 := { stood := { row := codingEncodesRow, standIns := [], harness := (true, "8b1b93f0cda9cf47d35bbe7866cceaf2f1331f73227fd0a9651691e685a6098a"), looks := false }, kinds := [], alts := [], laidByText := true, laidKinds := [.data, .pinned], laidTests := true, laidLooks := .later }
def CodingEncodesCardSaid : Prop := Claim7.holds Tryd.pinned (.plain (OpenSpec.ofChange codingEncodesSpec)) codingEncodesCard

/-- THE TIED CARD OF 'leakresponselaw01.CodingDecodes'. -/
def codingDecodesCard : Claim7 := { stood := { row := codingDecodesRow, standIns := [], harness := (true, "8b1b93f0cda9cf47d35bbe7866cceaf2f1331f73227fd0a9651691e685a6098a"), looks := false }, kinds := [], alts := [], laidByText := true, laidKinds := [.data, .pinned], laidTests := true, laidLooks := .later }
def CodingDecodesCardSaid : Prop := Claim7.holds Tryd.pinned (.plain (OpenSpec.ofChange codingDecodesSpec)) codingDecodesCard

/-- THE TIED CARD OF 'leakresponselaw01.CodingBack'. -/
def codingBackCard : Claim7 := { stood := { row := codingBackRow, standIns := [], harness := (true, "8b1b93f0cda9cf47d35bbe7866cceaf2f1331f73227fd0a9651691e685a6098a"), looks := false }, kinds := [], alts := [], laidByText := true, laidKinds := [.data, .pinned], laidTests := true, laidLooks := .later }
def CodingBackCardSaid : Prop := Claim7.holds Tryd.pinned (.plain (OpenSpec.ofChange codingBackSpec)) codingBackCard

/-- THE TIED CARD OF 'leakresponselaw01.CodingRuns'. -/
def codingRunsCard : Claim7 := { stood := { row := codingRunsRow, standIns := [], harness := (true, "8b1b93f0cda9cf47d35bbe7866cceaf2f1331f73227fd0a9651691e685a6098a"), looks := false }, kinds := [], alts := [], laidByText := true, laidKinds := [.data, .pinned], laidTests := true, laidLooks := .later }
def CodingRunsCardSaid : Prop := Claim7.holds Tryd.pinned (.plain (OpenSpec.ofChange codingRunsSpec)) codingRunsCard

/-- THE TIED CARD OF 'leakresponselaw01.CodingOpens'. -/
def codingOpensCard : Claim7 := { stood := { row := codingOpensRow, standIns := [], harness := (true, "8b1b93f0cda9cf47d35bbe7866cceaf2f1331f73227fd0a9651691e685a6098a"), looks := false }, kinds := [], alts := [], laidByText := true, laidKinds := [.data, .pinned], laidTests := true, laidLooks := .later }
def CodingOpensCardSaid : Prop := Claim7.holds Tryd.pinned (.plain (OpenSpec.ofChange codingOpensSpec)) codingOpensCard

/-- THE SECOND FORM's CARD OF 'leakresponselaw01.CodingEncodes'. -/
def codingEncodesUptoCard : Claim7 := { stood := { row := codingEncodesUptoRow, standIns := [], harness := (true, "8b1b93f0cda9cf47d35bbe7866cceaf2f1331f73227fd0a9651691e685a6098a"), looks := false }, kinds := [], alts := [], laidByText := true, laidKinds := [.data, .pinned], laidTests := true, laidLooks := .later }
def CodingEncodesUptoCardSaid : Prop := Claim7.holds Tryd.pinned (.plain (OpenSpec.upto codingEncodesSpec)) codingEncodesUptoCard

/-- THE SECOND FORM's CARD OF 'leakresponselaw01.CodingDecodes'. -/
def codingDecodesUptoCard : Claim7 := { stood := { row := codingDecodesUptoRow, standIns := [], harness := (true, "8b1b93f0cda9cf47d35bbe7866cceaf2f1331f73227fd0a9651691e685a6098a"), looks := false }, kinds := [], alts := [], laidByText := true, laidKinds := [.data, .pinned], laidTests := true, laidLooks := .later }
def CodingDecodesUptoCardSaid : Prop := Claim7.holds Tryd.pinned (.plain (OpenSpec.upto codingDecodesSpec)) codingDecodesUptoCard

/-- THE SECOND FORM's CARD OF 'leakresponselaw01.CodingBack'. -/
def codingBackUptoCard : Claim7 := { stood := { row := codingBackUptoRow, standIns := [], harness := (true, "8b1b93f0cda9cf47d35bbe7866cceaf2f1331f73227fd0a9651691e685a6098a"), looks := false }, kinds := [], alts := [], laidByText := true, laidKinds := [.data, .pinned], laidTests := true, laidLooks := .later }
def CodingBackUptoCardSaid : Prop := Claim7.holds Tryd.pinned (.plain (OpenSpec.upto codingBackSpec)) codingBackUptoCard

/-- THE SECOND FORM's CARD OF 'leakresponselaw01.CodingRuns'. -/
def codingRunsUptoCard : Claim7 := { stood := { row := codingRunsUptoRow, standIns := [], harness := (true, "8b1b93f0cda9cf47d35bbe7866cceaf2f1331f73227fd0a9651691e685a6098a"), looks := false }, kinds := [], alts := [], laidByText := true, laidKinds := [.data, .pinned], laidTests := true, laidLooks := .later }
def CodingRunsUptoCardSaid : Prop := Claim7.holds Tryd.pinned (.plain (OpenSpec.upto codingRunsSpec)) codingRunsUptoCard

/-- THE SECOND FORM's CARD OF 'leakresponselaw01.CodingOpens'. -/
def codingOpensUptoCard : Claim7 := { stood := { row := codingOpensUptoRow, standIns := [], harness := (true, "8b1b93f0cda9cf47d35bbe7866cceaf2f1331f73227fd0a9651691e685a6098a"), looks := false }, kinds := [], alts := [], laidByText := true, laidKinds := [.data, .pinned], laidTests := true, laidLooks := .later }
def CodingOpensUptoCardSaid : Prop := Claim7.holds Tryd.pinned (.plain (OpenSpec.upto codingOpensSpec)) codingOpensUptoCard
end Rows
end Go.Proofs.YtpfldcfnbgdceaaDoor
