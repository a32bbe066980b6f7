/- One call's run: chandlery/roots.Resolve. -/
import Derived.Test.YtmmnkojglcgnaaaGreatRnP
namespace Go.AI.Rn
set_option maxRecDepth 100000 in
theorem run4 : s4.runs pt (smWith base il l4) 60 4 = true := by kernel_rfl
end Go.AI.Rn

/- One call's run: chandlery/db.Get. -/
namespace Go.AI.Rn
set_option maxRecDepth 100000 in
theorem run5 : s5.runs pt (smWith base il l5) 60 31 = true := by kernel_rfl
end Go.AI.Rn
