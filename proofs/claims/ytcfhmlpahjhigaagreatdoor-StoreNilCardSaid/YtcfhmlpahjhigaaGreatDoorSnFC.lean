/- Closed facts of the row of StoreNil, asked one by one. -/
import Derived.Test.YtcfhmlpahjhigaaGreatDoorRows
import Derived.ProofKit
namespace Go.Proofs.YtcfhmlpahjhigaaGreatDoor.storeNil
theorem fact26 : ((Rows.storeNilRow.lifted == Tryz.prog.liftsFinal)) = true := by kernel_rfl
theorem fact27 : ((Tryz.prog.make == some Rows.storeNilRow.make)) = true := by kernel_rfl
end Go.Proofs.YtcfhmlpahjhigaaGreatDoor.storeNil
