/- Closed facts of StoreNil's card. -/
import Derived.Test.YtcfhmlpahjhigaaGreatDoorCards
import Derived.ProofKit
import Derived.SevenTiedAt
namespace Go.Proofs.YtcfhmlpahjhigaaGreatDoor.storeNil
theorem cMain : Tryz.pinned.checked.prog.mainIs = some (true, "6ddb8998ae9207ce6c86d1cd77ccedf32a44a9122b51a26b9e6636a9fadd827a".toList) := by kernel_rfl
end Go.Proofs.YtcfhmlpahjhigaaGreatDoor.storeNil
