/- Facts of the card of MachineCompiles that hang on no walk. -/
import Derived.Test.YthamegenljmgmaaGreatDoorY01
import Derived.Test.YthamegenljmgmaaGreatDoorRows
import Derived.ProofKit
import Derived.Stop.Joined
import Derived.JoinedOf
import Derived.SevenTiedAt
import Derived.Test.YthamegenljmgmaaGreatDoorCards
set_option linter.unusedVariables false
set_option linter.unusedSimpArgs false
namespace Go.Proofs.YthamegenljmgmaaGreatDoor.machineCompiles
set_option maxRecDepth 100000
theorem c1_:(Rows.machineCompilesRow.inPlace == Tryz.pinned.checked.prog.inPlace 3)=true:=R
theorem c2_:(Rows.machineCompilesRow.unfollowed == Tryz.pinned.checked.prog.unfollowed 3)=true:=R
theorem c3_:(Rows.machineCompilesRow.recurses == Tryz.pinned.checked.prog.recurses 3)=true:=R
theorem c4_:(Rows.machineCompilesRow.named == Tryz.pinned.checked.prog.varsNamed 3)=true:=R
theorem QF:joinedFacts Tryz.pinned.checked.prog 3 Tryz.f3 Rows.machineCompilesSpec Rows.machineCompilesRow=true:=by
 unfold joinedFacts;rw[c1_,c2_,c3_,c4_]
 kernel_rfl
theorem wf_:Rows.machineCompilesRow.wfByText (OpenSpec.ofChange Rows.machineCompilesSpec)=true:=R
theorem VG:true=Tryz.pinned.checked.prog.looks []:=R
theorem aa5:Tryz.pinned.checked.prog.mainIs=some (((true, "aa4b8bd36c2c2816fdd2d9b28a8ed9e1b83d8651783796543e420dcb569a3c83"):Bool×String).1,((true, "aa4b8bd36c2c2816fdd2d9b28a8ed9e1b83d8651783796543e420dcb569a3c83"):Bool×String).2.toList):=R
theorem aa6:false=Rows.machineCompilesRow.goesBy Tryz.pinned.checked.prog:=R
end Go.Proofs.YthamegenljmgmaaGreatDoor.machineCompiles
