/- One call's run: chandlery/db.Unregister. -/
import Derived.Test.YtcfhmlpahjhigaaGreatDoorSnP
namespace Go.AI.Sn
set_option maxRecDepth 100000 in
theorem run36 : s36.runs pt (smWith base il l36) 60 87 = true := by kernel_rfl
end Go.AI.Sn

/- One call's run: chandlery/fsys.Stat. -/
namespace Go.AI.Sn
set_option maxRecDepth 100000 in
theorem run37 : s37.runs pt (smWith base il l37) 60 78 = true := by kernel_rfl
end Go.AI.Sn
