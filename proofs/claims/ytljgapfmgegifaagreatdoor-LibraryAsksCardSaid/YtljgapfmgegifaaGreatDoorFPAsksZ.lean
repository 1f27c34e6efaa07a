/- Facts of the card of LibraryAsks that hang on no walk. -/
import Derived.Test.YtljgapfmgegifaaGreatDoorRows
import Derived.ProofKit
import Derived.Stop.Joined
import Derived.JoinedOf
import Derived.SevenTiedAt
import Derived.Test.YtljgapfmgegifaaGreatDoorCards
namespace Go.Proofs.YtljgapfmgegifaaGreatDoor.libraryAsks
set_option maxRecDepth 100000
theorem c1_:(Rows.libraryAsksRow.inPlace == Tryz.pinned.checked.prog.inPlace 4)=true:=by kernel_rfl
theorem c2_:(Rows.libraryAsksRow.unfollowed == Tryz.pinned.checked.prog.unfollowed 4)=true:=by kernel_rfl
theorem c3_:(Rows.libraryAsksRow.recurses == Tryz.pinned.checked.prog.recurses 4)=true:=by kernel_rfl
theorem c4_:(Rows.libraryAsksRow.named == Tryz.pinned.checked.prog.varsNamed 4)=true:=by kernel_rfl
theorem closed_:joinedFacts Tryz.pinned.checked.prog 4 Tryz.f4 Rows.libraryAsksSpec Rows.libraryAsksRow=true:=by
 unfold joinedFacts;rw[c1_,c2_,c3_,c4_]
 kernel_rfl
theorem wf_:Rows.libraryAsksRow.wfByText (OpenSpec.ofChange Rows.libraryAsksSpec)=true:=by kernel_rfl
theorem looks_:true=Tryz.pinned.checked.prog.looks []:=by kernel_rfl
theorem main_:Tryz.pinned.checked.prog.mainIs=some (((true, "a3b55bfcf1e106f7648deb5c5805ad3ee6c792b5fdb33d2b8959f6d9104bb0ed"):Bool×String).1,((true, "a3b55bfcf1e106f7648deb5c5805ad3ee6c792b5fdb33d2b8959f6d9104bb0ed"):Bool×String).2.toList):=by kernel_rfl
theorem goes_:false=Rows.libraryAsksRow.goesBy Tryz.pinned.checked.prog:=by kernel_rfl
end Go.Proofs.YtljgapfmgegifaaGreatDoor.libraryAsks
