/- One call's run: (*chandlery/store.Store).AddTree. -/
import Derived.Test.YtcfhmlpahjhigaaGreatDoorSnP
namespace Go.AI.Sn
set_option maxRecDepth 100000 in
theorem run28 : s28.runs pt (smWith base il l28) 60 5 = true := by kernel_rfl
end Go.AI.Sn

/- One call's run: (*chandlery/store.Store).Info. -/
namespace Go.AI.Sn
set_option maxRecDepth 100000 in
theorem run29 : s29.runs pt (smWith base il l29) 60 8 = true := by kernel_rfl
end Go.AI.Sn
