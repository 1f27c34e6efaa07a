/-
  DERIVED. GIVEN WITH THE SEED: THE CARDS: each row of YtklnakjmiljmhaaGreatDoorRows.lean that lists a variable, with what it lists TIED to the program's text (the seventh form; the later family's looks); each row that meets fmt, with fmt's text TOLD by the authors' own Lean function (tested against real Go, not proved from fmt's source: count such statements apart). THE CARD IS WHAT COUNTS. Prove the row's statement (the work); the ties are given (YtklnakjmiljmhaaGreatDoorTie.lean); close each card by the builder's one call (the guide's Derived/Test/ToyasCard.lean, 'card_holds'). Laid BY PROGRAM, IN A SANDBOX (cutbox-door.mjs). By AI agents, Wed Nov 11 2026. No macro, syntax, notation, axiom, sorry.
-/
import Derived.Test.YtklnakjmiljmhaaGreatDoorRows
import GoSem.ClaimSeven
namespace Go.Proofs.YtklnakjmiljmhaaGreatDoor
namespace Rows

/-- THE TIED CARD OF 'leakresponselaw17.ExportParses'. -/
def exportParsesCard : Claim7 := { stood := { row := exportParsesRow, standIns := [], harness := (true, "b9eb71ea01684ad71218fc0ab49d98b74776e0ee85fc0cae924862717542ef04"), looks := true }, kinds := [], alts := [], laidByText := true, laidKinds := [.data, .data, .data, .data, .sentinel, .sentinel, .sentinel, .pinned], laidTests := true, laidLooks := .later }
def ExportParsesCardSaid : Prop := Claim7.holds Tryz.pinned (.plain (OpenSpec.ofChange exportParsesSpec)) exportParsesCard

/-- THE TIED CARD OF 'leakresponselaw17.ExportKeeps'. -/
def exportKeepsCard : Claim7 := { stood := { row := exportKeepsRow, standIns := [], harness := (true, "b9eb71ea01684ad71218fc0ab49d98b74776e0ee85fc0cae924862717542ef04"), looks := true }, kinds := [], alts := [], laidByText := true, laidKinds := [.data, .data, .data, .data, .sentinel, .sentinel, .sentinel, .pinned], laidTests := true, laidLooks := .later }
def ExportKeepsCardSaid : Prop := Claim7.holds Tryz.pinned (.plain (OpenSpec.ofChange exportKeepsSpec)) exportKeepsCard

/-- THE TIED CARD OF 'leakresponselaw17.ExportPrefix'. -/
def exportPrefixCard : Claim7 := { stood := { row := exportPrefixRow, standIns := [], harness := (true, "b9eb71ea01684ad71218fc0ab49d98b74776e0ee85fc0cae924862717542ef04"), looks := true }, kinds := [], alts := [], laidByText := true, laidKinds := [.data, .data, .data, .data, .sentinel, .sentinel, .sentinel, .pinned], laidTests := true, laidLooks := .later }
def ExportPrefixCardSaid : Prop := Claim7.holds Tryz.pinned (.plain (OpenSpec.ofChange exportPrefixSpec)) exportPrefixCard

/-- THE TIED CARD OF 'leakresponselaw17.ExportFormats'. -/
def exportFormatsCard : Claim7 := { stood := { row := exportFormatsRow, standIns := [], harness := (true, "b9eb71ea01684ad71218fc0ab49d98b74776e0ee85fc0cae924862717542ef04"), looks := true }, kinds := [], alts := [], laidByText := true, laidKinds := [.data, .data, .data, .data, .sentinel, .sentinel, .sentinel, .pinned], laidTests := true, laidLooks := .later }
def ExportFormatsCardSaid : Prop := Claim7.holds Tryz.pinned (.plain (OpenSpec.ofChange exportFormatsSpec)) exportFormatsCard

/-- THE TIED CARD OF 'leakresponselaw17.ExportBack'. -/
def exportBackCard : Claim7 := { stood := { row := exportBackRow, standIns := [], harness := (true, "b9eb71ea01684ad71218fc0ab49d98b74776e0ee85fc0cae924862717542ef04"), looks := true }, kinds := [], alts := [], laidByText := true, laidKinds := [.data, .data, .data, .data, .sentinel, .sentinel, .sentinel, .pinned], laidTests := true, laidLooks := .later }
def ExportBackCardSaid : Prop := Claim7.holds Tryz.pinned (.plain (OpenSpec.ofChange exportBackSpec)) exportBackCard

/-- THE SECOND FORM's CARD OF 'leakresponselaw17.ExportParses'. -/
def exportParsesUptoCard : Claim7 := { stood := { row := exportParsesUptoRow, standIns := [], harness := (true, "b9eb71ea01684ad71218fc0ab49d98b74776e0ee85fc0cae924862717542ef04"), looks := true }, kinds := [], alts := [], laidByText := true, laidKinds := [.data, .data, .data, .data, .sentinel, .sentinel, .sentinel, .pinned], laidTests := true, laidLooks := .later }
def ExportParsesUptoCardSaid : Prop := Claim7.holds Tryz.pinned (.plain (OpenSpec.upto exportParsesSpec)) exportParsesUptoCard

/-- THE SECOND FORM's CARD OF 'leakresponselaw17.ExportKeeps'. -/
def exportKeepsUptoCard : Claim7 := { stood := { row := exportKeepsUptoRow, standIns := [], harness := (true, "b9eb71ea01684ad71218fc0ab49d98b74776e0ee85fc0cae924862717542ef04"), looks := true }, kinds := [], alts := [], laidByText := true, laidKinds := [.data, .data, .data, .data, .sentinel, .sentinel, .sentinel, .pinned], laidTests := true, laidLooks := .later }
def ExportKeepsUptoCardSaid : Prop := Claim7.holds Tryz.pinned (.plain (OpenSpec.upto exportKeepsSpec)) exportKeepsUptoCard

/-- THE SECOND FORM's CARD OF 'leakresponselaw17.ExportPrefix'. -/
def exportPrefixUptoCard : Claim7 := { stood := { row := exportPrefixUptoRow, standIns := [], harness := (true, "b9eb71ea01684ad71218fc0ab49d98b74776e0ee85fc0cae924862717542ef04"), looks := true }, kinds := [], alts := [], laidByText := true, laidKinds := [.data, .data, .data, .data, .sentinel, .sentinel, .sentinel, .pinned], laidTests := true, laidLooks := .later }
def ExportPrefixUptoCardSaid : Prop := Claim7.holds Tryz.pinned (.plain (OpenSpec.upto exportPrefixSpec)) exportPrefixUptoCard

/-- THE SECOND FORM's CARD OF 'leakresponselaw17.ExportFormats'. -/
def exportFormatsUptoCard : Claim7 := { stood := { row := exportFormatsUptoRow, standIns := [], harness := (true, "b9eb71ea01684ad71218fc0ab49d98b74776e0ee85fc0cae924862717542ef04"), looks := true }, kinds := [], alts := [], laidByText := true, laidKinds := [.data, .data, .data, .data, .sentinel, .sentinel, .sentinel, .pinned], laidTests := true, laidLooks := .later }
def ExportFormatsUptoCardSaid : Prop := Claim7.holds Tryz.pinned (.plain (OpenSpec.upto exportFormatsSpec)) exportFormatsUptoCard

/-- THE SECOND FORM's CARD OF 'leakresponselaw17.ExportBack'. -/
def exportBackUptoCard : Claim7 := { stood := { row := exportBackUptoRow, standIns := [], harness := (true, "b9eb71ea01684ad71218fc0ab49d98b74776e0ee85fc0cae924862717542ef04"), looks := true }, kinds := [], alts := [], laidByText := true, laidKinds := [.data, .data, .data, .data, .sentinel, .sentinel, .sentinel, .pinned], laidTests := true, laidLooks := .later }
def ExportBackUptoCardSaid : Prop := Claim7.holds Tryz.pinned (.plain (OpenSpec.upto exportBackSpec)) exportBackUptoCard
end Rows
end Go.Proofs.YtklnakjmiljmhaaGreatDoor
