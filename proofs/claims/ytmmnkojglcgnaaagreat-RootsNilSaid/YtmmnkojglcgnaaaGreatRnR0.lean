/- One call's run: chandlery/db.Register. -/
import Derived.Test.YtmmnkojglcgnaaaGreatRnP
namespace Go.AI.Rn
set_option maxRecDepth 100000 in
theorem run0 : s0.runs pt (smWith base il l0) 60 18 = true := by kernel_rfl
end Go.AI.Rn

/- One call's run: chandlery/db.Get. -/
namespace Go.AI.Rn
set_option maxRecDepth 100000 in
theorem run1 : s1.runs pt (smWith base il l1) 60 31 = true := by kernel_rfl
end Go.AI.Rn
