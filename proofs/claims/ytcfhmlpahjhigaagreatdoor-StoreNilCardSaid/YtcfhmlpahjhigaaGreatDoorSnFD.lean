/- Closed facts of the row of StoreNil, asked one by one. -/
import Derived.Test.YtcfhmlpahjhigaaGreatDoorRows
import Derived.ProofKit
namespace Go.Proofs.YtcfhmlpahjhigaaGreatDoor.storeNil
theorem fact9 : ((Rows.storeNilRow.inPlace == Tryz.prog.inPlace 3)) = true := by kernel_rfl
theorem fact10 : ((Rows.storeNilRow.unfollowed == Tryz.prog.unfollowed 3)) = true := by kernel_rfl
theorem fact11 : ((Rows.storeNilRow.recurses == Tryz.prog.recurses 3)) = true := by kernel_rfl
theorem fact12 : ((Rows.storeNilRow.named == Tryz.prog.varsNamed 3)) = true := by kernel_rfl
end Go.Proofs.YtcfhmlpahjhigaaGreatDoor.storeNil
