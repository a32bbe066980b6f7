/- Closed facts of the row of StoreNil, asked one by one. -/
import Derived.Test.YtcfhmlpahjhigaaGreatDoorRows
import Derived.ProofKit
namespace Go.Proofs.YtcfhmlpahjhigaaGreatDoor.storeNil
theorem fact25 : (Tryz.prog.mayEnter) = true := by kernel_rfl
end Go.Proofs.YtcfhmlpahjhigaaGreatDoor.storeNil
