/- One call's run: (*chandlery/store.Store).List. -/
import Derived.Test.YtcfhmlpahjhigaaGreatDoorSnP
namespace Go.AI.Sn
set_option maxRecDepth 100000 in
theorem run30 : s30.runs pt (smWith base il l30) 60 9 = true := by kernel_rfl
end Go.AI.Sn

/- One call's run: chandlery/db.Get. -/
namespace Go.AI.Sn
set_option maxRecDepth 100000 in
theorem run31 : s31.runs pt (smWith base il l31) 60 30 = true := by kernel_rfl
end Go.AI.Sn
