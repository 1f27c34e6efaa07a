/- Facts of the card of ScanFinds that hang on no walk. -/
import Derived.Test.YtdmoogjddmdmbaaGreatDoorX01
import Derived.Test.YtdmoogjddmdmbaaGreatDoorRows
import Derived.ProofKit
import Derived.Stop.Joined
import Derived.JoinedOf
import Derived.SevenTiedAt
import Derived.Test.YtdmoogjddmdmbaaGreatDoorCards
set_option linter.unusedVariables false
set_option linter.unusedSimpArgs false
namespace Go.Proofs.YtdmoogjddmdmbaaGreatDoor.scanFinds
set_option maxRecDepth 100000
theorem c1_:(Rows.scanFindsRow.inPlace == Tryz.pinned.checked.prog.inPlace 3)=true:=κ
theorem c2_:(Rows.scanFindsRow.unfollowed == Tryz.pinned.checked.prog.unfollowed 3)=true:=κ
theorem c3_:(Rows.scanFindsRow.recurses == Tryz.pinned.checked.prog.recurses 3)=true:=κ
theorem c4_:(Rows.scanFindsRow.named == Tryz.pinned.checked.prog.varsNamed 3)=true:=κ
theorem Q7:joinedFacts Tryz.pinned.checked.prog 3 Tryz.f3 Rows.scanFindsSpec Rows.scanFindsRow=true:=by
 unfold joinedFacts;rw[c1_,c2_,c3_,c4_]
 kernel_rfl
theorem wf_:Rows.scanFindsRow.wfByText (OpenSpec.ofChange Rows.scanFindsSpec)=true:=κ
theorem Wn:false=Tryz.pinned.checked.prog.looks []:=κ
theorem acI:Tryz.pinned.checked.prog.mainIs=some (((true, "105310f44fc7dc9c240ec21c869e98d4e96843577106512ff9d72452495896e4"):Bool×String).1,((true, "105310f44fc7dc9c240ec21c869e98d4e96843577106512ff9d72452495896e4"):Bool×String).2.toList):=κ
theorem acJ:false=Rows.scanFindsRow.goesBy Tryz.pinned.checked.prog:=κ
end Go.Proofs.YtdmoogjddmdmbaaGreatDoor.scanFinds
