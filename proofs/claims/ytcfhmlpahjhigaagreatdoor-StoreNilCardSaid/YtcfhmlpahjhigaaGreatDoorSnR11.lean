/- One call's run: chandlery/db.Get. -/
import Derived.Test.YtcfhmlpahjhigaaGreatDoorSnP
namespace Go.AI.Sn
set_option maxRecDepth 100000 in
theorem run22 : s22.runs pt (smWith base il l22) 60 30 = true := by kernel_rfl
end Go.AI.Sn

/- One call's run: chandlery/db.Register. -/
namespace Go.AI.Sn
set_option maxRecDepth 100000 in
theorem run23 : s23.runs pt (smWith base il l23) 60 67 = true := by kernel_rfl
end Go.AI.Sn
