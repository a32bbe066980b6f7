/- Closed facts of StoreNil's card. -/
import Derived.Test.YtcfhmlpahjhigaaGreatDoorCards
import Derived.ProofKit
import Derived.SevenTiedAt
namespace Go.Proofs.YtcfhmlpahjhigaaGreatDoor.storeNil
theorem cWf : Rows.storeNilRow.wfByText (OpenSpec.ofChange Rows.storeNilSpec) = true := by kernel_rfl
theorem cNamed : Tryz.prog.funcNamed "chandlery/chandlerylaw24.StoreNil" = some 3 := by kernel_rfl
theorem cAll : ([9, 22].all fun u => !Tryz.prog.wantsStandIn u) = true := by kernel_rfl
end Go.Proofs.YtcfhmlpahjhigaaGreatDoor.storeNil
