/- One call's run: chandlery/files.Drop. -/
import Derived.Test.YtcfhmlpahjhigaaGreatDoorSnP
namespace Go.AI.Sn
set_option maxRecDepth 100000 in
theorem run40 : s40.runs pt (smWith base il l40) 60 233 = true := by kernel_rfl
end Go.AI.Sn

/- One call's run: (*chandlery/store.Store).Delete. -/
namespace Go.AI.Sn
set_option maxRecDepth 100000 in
theorem run41 : s41.runs pt (smWith base il l41) 60 13 = true := by kernel_rfl
end Go.AI.Sn
