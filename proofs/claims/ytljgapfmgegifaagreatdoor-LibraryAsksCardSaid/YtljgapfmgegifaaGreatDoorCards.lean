/-
  DERIVED. GIVEN WITH THE SEED: THE CARDS: each row of YtljgapfmgegifaaGreatDoorRows.lean that lists a variable, with what it lists TIED to the program's text (the seventh form; the later family's looks); each row that meets fmt, with fmt's text TOLD by the authors' own Lean function (tested against real Go, not proved from fmt's source: count such statements apart). THE CARD IS WHAT COUNTS. Prove the row's statement (the work); the ties are given (YtljgapfmgegifaaGreatDoorTie.lean); close each card by the builder's one call (the guide's Derived/Test/ToyasCard.lean, 'card_holds'). Laid BY PROGRAM, IN A SANDBOX (cutbox-door.mjs). By AI agents, Wed Nov 11 2026. No macro, syntax, notation, axiom, sorry.
-/
import Derived.Test.YtljgapfmgegifaaGreatDoorRows
import GoSem.ClaimSeven
namespace Go.Proofs.YtljgapfmgegifaaGreatDoor
namespace Rows

/-- THE TIED CARD OF 'leakresponselaw07.LibraryTurns'. -/
def libraryTurnsCard : Claim7 := { stood := { row := libraryTurnsRow, standIns := [], harness := (true, "a3b55bfcf1e106f7648deb5c5805ad3ee6c792b5fdb33d2b8959f6d9104bb0ed"), looks := true }, kinds := [], alts := [], laidByText := true, laidKinds := [.data, .data, .data, .data, .sentinel, .sentinel, .pinned], laidTests := true, laidLooks := .later }
def LibraryTurnsCardSaid : Prop := Claim7.holds Tryz.pinned (.plain (OpenSpec.ofChange libraryTurnsSpec)) libraryTurnsCard

/-- THE TIED CARD OF 'leakresponselaw07.LibraryAsks'. -/
def libraryAsksCard : Claim7 := { stood := { row := libraryAsksRow, standIns := [], harness := (true, "a3b55bfcf1e106f7648deb5c5805ad3ee6c792b5fdb33d2b8959f6d9104bb0ed"), looks := true }, kinds := [], alts := [], laidByText := true, laidKinds := [.data, .data, .data, .data, .sentinel, .sentinel, .pinned], laidTests := true, laidLooks := .later }
def LibraryAsksCardSaid : Prop := Claim7.holds Tryz.pinned (.plain (OpenSpec.ofChange libraryAsksSpec)) libraryAsksCard

/-- THE TIED CARD OF 'leakresponselaw07.LibraryBack'. -/
def libraryBackCard : Claim7 := { stood := { row := libraryBackRow, standIns := [], harness := (true, "a3b55bfcf1e106f7648deb5c5805ad3ee6c792b5fdb33d2b8959f6d9104bb0ed"), looks := true }, kinds := [], alts := [], laidByText := true, laidKinds := [.data, .data, .data, .data, .sentinel, .sentinel, .pinned], laidTests := true, laidLooks := .later }
def LibraryBackCardSaid : Prop := Claim7.holds Tryz.pinned (.plain (OpenSpec.ofChange libraryBackSpec)) libraryBackCard

/-- THE SECOND FORM's CARD OF 'leakresponselaw07.LibraryTurns'. -/
def libraryTurnsUptoCard : Claim7 := { stood := { row := libraryTurnsUptoRow, standIns := [], harness := (true, "a3b55bfcf1e106f7648deb5c5805ad3ee6c792b5fdb33d2b8959f6d9104bb0ed"), looks := true }, kinds := [], alts := [], laidByText := true, laidKinds := [.data, .data, .data, .data, .sentinel, .sentinel, .pinned], laidTests := true, laidLooks := .later }
def LibraryTurnsUptoCardSaid : Prop := Claim7.holds Tryz.pinned (.plain (OpenSpec.upto libraryTurnsSpec)) libraryTurnsUptoCard

/-- THE SECOND FORM's CARD OF 'leakresponselaw07.LibraryAsks'. -/
def libraryAsksUptoCard : Claim7 := { stood := { row := libraryAsksUptoRow, standIns := [], harness := (true, "a3b55bfcf1e106f7648deb5c5805ad3ee6c792b5fdb33d2b8959f6d9104bb0ed"), looks := true }, kinds := [], alts := [], laidByText := true, laidKinds := [.data, .data, .data, .data, .sentinel, .sentinel, .pinned], laidTests := true, laidLooks := .later }
def LibraryAsksUptoCardSaid : Prop := Claim7.holds Tryz.pinned (.plain (OpenSpec.upto libraryAsksSpec)) libraryAsksUptoCard

/-- THE SECOND FORM's CARD OF 'leakresponselaw07.LibraryBack'. -/
def libraryBackUptoCard : Claim7 := { stood := { row := libraryBackUptoRow, standIns := [], harness := (true, "a3b55bfcf1e106f7648deb5c5805ad3ee6c792b5fdb33d2b8959f6d9104bb0ed"), looks := true }, kinds := [], alts := [], laidByText := true, laidKinds := [.data, .data, .data, .data, .sentinel, .sentinel, .pinned], laidTests := true, laidLooks := .later }
def LibraryBackUptoCardSaid : Prop := Claim7.holds Tryz.pinned (.plain (OpenSpec.upto libraryBackSpec)) libraryBackUptoCard
end Rows
end Go.Proofs.YtljgapfmgegifaaGreatDoor
