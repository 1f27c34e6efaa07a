/- Facts of the card of StreamEmpty that hang on no walk. -/
import Derived.Test.YtdmoogjddmdmbaaGreatDoorRows
import Derived.ProofKit
import Derived.Stop.Joined
import Derived.JoinedOf
import Derived.SevenTiedAt
import Derived.Test.YtdmoogjddmdmbaaGreatDoorCards
set_option linter.unusedVariables false
set_option linter.unusedSimpArgs false
namespace Go.Proofs.YtdmoogjddmdmbaaGreatDoor.streamEmpty
set_option maxRecDepth 100000
theorem c1_:(Rows.streamEmptyRow.inPlace == Tryz.pinned.checked.prog.inPlace 5)=true:=by kernel_rfl
theorem c2_:(Rows.streamEmptyRow.unfollowed == Tryz.pinned.checked.prog.unfollowed 5)=true:=by kernel_rfl
theorem c3_:(Rows.streamEmptyRow.recurses == Tryz.pinned.checked.prog.recurses 5)=true:=by kernel_rfl
theorem c4_:(Rows.streamEmptyRow.named == Tryz.pinned.checked.prog.varsNamed 5)=true:=by kernel_rfl
theorem Rn:joinedFacts Tryz.pinned.checked.prog 5 Tryz.f5 Rows.streamEmptySpec Rows.streamEmptyRow=true:=by
 unfold joinedFacts;rw[c1_,c2_,c3_,c4_]
 kernel_rfl
theorem wf_:Rows.streamEmptyRow.wfByText (OpenSpec.ofChange Rows.streamEmptySpec)=true:=by kernel_rfl
theorem Wy:false=Tryz.pinned.checked.prog.looks []:=by kernel_rfl
theorem acB:Tryz.pinned.checked.prog.mainIs=some (((true, "105310f44fc7dc9c240ec21c869e98d4e96843577106512ff9d72452495896e4"):Bool×String).1,((true, "105310f44fc7dc9c240ec21c869e98d4e96843577106512ff9d72452495896e4"):Bool×String).2.toList):=by kernel_rfl
theorem acC:false=Rows.streamEmptyRow.goesBy Tryz.pinned.checked.prog:=by kernel_rfl
end Go.Proofs.YtdmoogjddmdmbaaGreatDoor.streamEmpty
