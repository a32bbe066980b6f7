/- One call's run: chandlery/db.Get. -/
import Derived.Test.YtmmnkojglcgnaaaGreatRnP
namespace Go.AI.Rn
set_option maxRecDepth 100000 in
theorem run22 : s22.runs pt (smWith base il l22) 60 31 = true := by kernel_rfl
end Go.AI.Rn

/- One call's run: chandlery/db.Get. -/
namespace Go.AI.Rn
set_option maxRecDepth 100000 in
theorem run23 : s23.runs pt (smWith base il l23) 60 31 = true := by kernel_rfl
end Go.AI.Rn
