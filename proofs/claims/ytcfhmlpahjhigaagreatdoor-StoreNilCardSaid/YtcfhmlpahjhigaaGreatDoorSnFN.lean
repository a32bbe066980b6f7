/- Closed facts of StoreNil's card. -/
import Derived.Test.YtcfhmlpahjhigaaGreatDoorCards
import Derived.ProofKit
import Derived.SevenTiedAt
namespace Go.Proofs.YtcfhmlpahjhigaaGreatDoor.storeNil
theorem cGoes : false = Rows.storeNilRow.goesBy Tryz.pinned.checked.prog := by kernel_rfl
end Go.Proofs.YtcfhmlpahjhigaaGreatDoor.storeNil
