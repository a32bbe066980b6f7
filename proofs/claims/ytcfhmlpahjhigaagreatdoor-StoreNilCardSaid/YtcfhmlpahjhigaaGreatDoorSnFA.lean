/- Closed facts of the row of StoreNil, asked one by one. -/
import Derived.Test.YtcfhmlpahjhigaaGreatDoorRows
import Derived.ProofKit
namespace Go.Proofs.YtcfhmlpahjhigaaGreatDoor.storeNil
theorem fact1 : (laidOutB Tryz.prog) = true := by kernel_rfl
theorem fact2 : (mapsRowed Tryz.prog) = true := by kernel_rfl
theorem fact22 : ((Rows.storeNilRow.plainKeys == Tryz.prog.plainKeys)) = true := by kernel_rfl
theorem fact24 : (Tryz.prog.stopsHeard) = true := by kernel_rfl
end Go.Proofs.YtcfhmlpahjhigaaGreatDoor.storeNil
