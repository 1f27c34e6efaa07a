/- Facts of the card of StreamLimits that hang on no walk. -/
import Derived.Test.YtdmoogjddmdmbaaGreatDoorRows
import Derived.ProofKit
import Derived.Stop.Joined
import Derived.JoinedOf
import Derived.SevenTiedAt
import Derived.Test.YtdmoogjddmdmbaaGreatDoorCards
namespace Go.Proofs.YtdmoogjddmdmbaaGreatDoor.streamLimits
set_option maxRecDepth 100000
theorem c1_:(Rows.streamLimitsRow.inPlace == Tryz.pinned.checked.prog.inPlace 4)=true:=by kernel_rfl
theorem c2_:(Rows.streamLimitsRow.unfollowed == Tryz.pinned.checked.prog.unfollowed 4)=true:=by kernel_rfl
theorem c3_:(Rows.streamLimitsRow.recurses == Tryz.pinned.checked.prog.recurses 4)=true:=by kernel_rfl
theorem c4_:(Rows.streamLimitsRow.named == Tryz.pinned.checked.prog.varsNamed 4)=true:=by kernel_rfl
theorem closed_:joinedFacts Tryz.pinned.checked.prog 4 Tryz.f4 Rows.streamLimitsSpec Rows.streamLimitsRow=true:=by
 unfold joinedFacts;rw[c1_,c2_,c3_,c4_]
 kernel_rfl
theorem wf_:Rows.streamLimitsRow.wfByText (OpenSpec.ofChange Rows.streamLimitsSpec)=true:=by kernel_rfl
theorem looks_:false=Tryz.pinned.checked.prog.looks []:=by kernel_rfl
theorem main_:Tryz.pinned.checked.prog.mainIs=some (((true, "105310f44fc7dc9c240ec21c869e98d4e96843577106512ff9d72452495896e4"):Bool×String).1,((true, "105310f44fc7dc9c240ec21c869e98d4e96843577106512ff9d72452495896e4"):Bool×String).2.toList):=by kernel_rfl
theorem goes_:false=Rows.streamLimitsRow.goesBy Tryz.pinned.checked.prog:=by kernel_rfl
end Go.Proofs.YtdmoogjddmdmbaaGreatDoor.streamLimits
