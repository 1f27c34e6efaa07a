/- Facts of the card of ScanDefinite that hang on no walk. -/
import Derived.Test.YtadjdkickjjieaaGreatDoorRows
import Derived.ProofKit
import Derived.Stop.Joined
import Derived.JoinedOf
import Derived.SevenTiedAt
import Derived.Test.YtadjdkickjjieaaGreatDoorCards
namespace Go.Proofs.YtadjdkickjjieaaGreatDoor.scanDefinite
set_option maxRecDepth 100000
theorem c1_:(Rows.scanDefiniteRow.inPlace == Tryz.pinned.checked.prog.inPlace 3)=true:=by kernel_rfl
theorem c2_:(Rows.scanDefiniteRow.unfollowed == Tryz.pinned.checked.prog.unfollowed 3)=true:=by kernel_rfl
theorem c3_:(Rows.scanDefiniteRow.recurses == Tryz.pinned.checked.prog.recurses 3)=true:=by kernel_rfl
theorem c4_:(Rows.scanDefiniteRow.named == Tryz.pinned.checked.prog.varsNamed 3)=true:=by kernel_rfl
theorem zK8:joinedFacts Tryz.pinned.checked.prog 3 Tryz.f3 Rows.scanDefiniteSpec Rows.scanDefiniteRow=true:=by
 unfold joinedFacts;rw[c1_,c2_,c3_,c4_]
 kernel_rfl
theorem wf_:Rows.scanDefiniteRow.wfByText (OpenSpec.ofChange Rows.scanDefiniteSpec)=true:=by kernel_rfl
theorem zMO:false=Tryz.pinned.checked.prog.looks []:=by kernel_rfl
theorem zNS:Tryz.pinned.checked.prog.mainIs=some (((true, "2dae87e91a34aad814c7823093af31a8c4406a4f74c37d492754ca2104092f3b"):Bool×String).1,((true, "2dae87e91a34aad814c7823093af31a8c4406a4f74c37d492754ca2104092f3b"):Bool×String).2.toList):=by kernel_rfl
theorem zNP:false=Rows.scanDefiniteRow.goesBy Tryz.pinned.checked.prog:=by kernel_rfl
end Go.Proofs.YtadjdkickjjieaaGreatDoor.scanDefinite
