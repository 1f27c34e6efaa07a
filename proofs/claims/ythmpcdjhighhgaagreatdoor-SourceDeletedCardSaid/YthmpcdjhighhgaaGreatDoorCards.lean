/-
  DERIVED. GIVEN WITH THE SEED: THE CARDS: each row of YthmpcdjhighhgaaGreatDoorRows.lean that lists a variable, with what it lists TIED to the program's text (the seventh form; the later family's looks); each row that meets fmt, with fmt's text TOLD by the authors' own Lean function (tested against real Go, not proved from fmt's source: count such statements apart). THE CARD IS WHAT COUNTS. Prove the row's statement (the work); the ties are given (YthmpcdjhighhgaaGreatDoorTie.lean); close each card by the builder's one call (the guide's Derived/Test/ToyasCard.lean, 'card_holds'). Laid BY PROGRAM, IN A SANDBOX (cutbox-door.mjs). By AI agents, Wed Nov 11 2026. No macro, syntax, notation, axiom, sorry.
-/
import Derived.Test.YthmpcdjhighhgaaGreatDoorRows
import GoSem.ClaimSeven
namespace Go.Proofs.YthmpcdjhighhgaaGreatDoor
namespace Rows

/-- THE TIED CARD OF 'leakresponselaw18.SourceDeleted'. -/
def sourceDeletedCard : Claim7 := { stood := { row := sourceDeletedRow, standIns := [], harness := (true, "1549cb9757a2dbb97c1d4ad9eff380fe002c5470de025651193a3feddcd9a277"), looks := true }, kinds := [], alts := [], laidByText := true, laidKinds := [.data, .data, .data, .data, .sentinel, .sentinel, .sentinel, .pinned], laidTests := true, laidLooks := .later }
def SourceDeletedCardSaid : Prop := Claim7.holds Tryz.pinned (.plain (OpenSpec.ofChange sourceDeletedSpec)) sourceDeletedCard

/-- THE SECOND FORM's CARD OF 'leakresponselaw18.SourceDeleted'. -/
def sourceDeletedUptoCard : Claim7 := { stood := { row := sourceDeletedUptoRow, standIns := [], harness := (true, "1549cb9757a2dbb97c1d4ad9eff380fe002c5470de025651193a3feddcd9a277"), looks := true }, kinds := [], alts := [], laidByText := true, laidKinds := [.data, .data, .data, .data, .sentinel, .sentinel, .sentinel, .pinned], laidTests := true, laidLooks := .later }
def SourceDeletedUptoCardSaid : Prop := Claim7.holds Tryz.pinned (.plain (OpenSpec.upto sourceDeletedSpec)) sourceDeletedUptoCard
end Rows
end Go.Proofs.YthmpcdjhighhgaaGreatDoor
