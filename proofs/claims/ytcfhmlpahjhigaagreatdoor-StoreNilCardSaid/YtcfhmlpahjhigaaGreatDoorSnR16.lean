/- One call's run: (*chandlery/store.Store).Delete. -/
import Derived.Test.YtcfhmlpahjhigaaGreatDoorSnP
namespace Go.AI.Sn
set_option maxRecDepth 100000 in
theorem run32 : s32.runs pt (smWith base il l32) 60 13 = true := by kernel_rfl
end Go.AI.Sn

/- One call's run: chandlery/db.Get. -/
namespace Go.AI.Sn
set_option maxRecDepth 100000 in
theorem run33 : s33.runs pt (smWith base il l33) 60 30 = true := by kernel_rfl
end Go.AI.Sn
