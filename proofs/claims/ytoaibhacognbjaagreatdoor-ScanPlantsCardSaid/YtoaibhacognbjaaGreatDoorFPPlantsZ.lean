/- Facts of the card of ScanPlants that hang on no walk. -/
import Derived.Test.YtoaibhacognbjaaGreatDoorRows
import Derived.ProofKit
import Derived.Stop.Joined
import Derived.JoinedOf
import Derived.SevenTiedAt
import Derived.Test.YtoaibhacognbjaaGreatDoorCards
namespace Go.Proofs.YtoaibhacognbjaaGreatDoor.scanPlants
set_option maxRecDepth 100000
theorem c1_ : (Rows.scanPlantsRow.inPlace == Tryz.pinned.checked.prog.inPlace 6) = true := by kernel_rfl
theorem c2_ : (Rows.scanPlantsRow.unfollowed == Tryz.pinned.checked.prog.unfollowed 6) = true := by kernel_rfl
theorem c3_ : (Rows.scanPlantsRow.recurses == Tryz.pinned.checked.prog.recurses 6) = true := by kernel_rfl
theorem c4_ : (Rows.scanPlantsRow.named == Tryz.pinned.checked.prog.varsNamed 6) = true := by kernel_rfl
theorem closed_ : joinedFacts Tryz.pinned.checked.prog 6 Tryz.f6 Rows.scanPlantsSpec Rows.scanPlantsRow = true := by
  unfold joinedFacts
  rw [c1_, c2_, c3_, c4_]
  kernel_rfl
theorem wf_ : Rows.scanPlantsRow.wfByText (OpenSpec.ofChange Rows.scanPlantsSpec) = true := by kernel_rfl
theorem looks_ : false = Tryz.pinned.checked.prog.looks [] := by kernel_rfl
theorem main_ : Tryz.pinned.checked.prog.mainIs = some (((true, "3da316ef833efd97474deac3443209a00fc1720f816b3dcbd1866e5bc9df8d17") : Bool × String).1, ((true, "3da316ef833efd97474deac3443209a00fc1720f816b3dcbd1866e5bc9df8d17") : Bool × String).2.toList) := by kernel_rfl
theorem goes_ : false = Rows.scanPlantsRow.goesBy Tryz.pinned.checked.prog := by kernel_rfl
end Go.Proofs.YtoaibhacognbjaaGreatDoor.scanPlants
