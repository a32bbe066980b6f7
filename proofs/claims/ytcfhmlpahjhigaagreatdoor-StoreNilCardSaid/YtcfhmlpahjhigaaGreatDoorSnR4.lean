/- One call's run: chandlery/plant.Put. -/
import Derived.Test.YtcfhmlpahjhigaaGreatDoorSnP
namespace Go.AI.Sn
set_option maxRecDepth 100000 in
theorem run8 : s8.runs pt (smWith base il l8) 60 68 = true := by kernel_rfl
end Go.AI.Sn

/- One call's run: (*chandlery/store.Store).AddText. -/
namespace Go.AI.Sn
set_option maxRecDepth 100000 in
theorem run9 : s9.runs pt (smWith base il l9) 60 6 = true := by kernel_rfl
end Go.AI.Sn
