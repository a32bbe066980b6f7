/- One call's run: chandlery/sha256.mix. -/
import Derived.Test.YtcfhmlpahjhigaaGreatDoorSnP
namespace Go.AI.Sn
set_option maxRecDepth 100000 in
theorem run18 : s18.runs pt (smWith base il l18) 60 284 = true := by kernel_rfl
end Go.AI.Sn

/- One call's run: (*chandlery/sha256.Hash).Sum. -/
namespace Go.AI.Sn
set_option maxRecDepth 100000 in
theorem run19 : s19.runs pt (smWith base il l19) 60 125 = true := by kernel_rfl
end Go.AI.Sn
