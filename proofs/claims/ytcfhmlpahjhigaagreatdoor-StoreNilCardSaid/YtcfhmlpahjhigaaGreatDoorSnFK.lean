/- Closed facts of StoreNil's card. -/
import Derived.Test.YtcfhmlpahjhigaaGreatDoorCards
import Derived.ProofKit
import Derived.SevenTiedAt
namespace Go.Proofs.YtcfhmlpahjhigaaGreatDoor.storeNil
theorem cLooks : false = Tryz.pinned.checked.prog.looks [] := by kernel_rfl
end Go.Proofs.YtcfhmlpahjhigaaGreatDoor.storeNil
