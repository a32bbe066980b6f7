/- One call's run: chandlery/db.Register. -/
import Derived.Test.YtmmnkojglcgnaaaGreatRnP
namespace Go.AI.Rn
set_option maxRecDepth 100000 in
theorem run2 : s2.runs pt (smWith base il l2) 60 18 = true := by kernel_rfl
end Go.AI.Rn

/- One call's run: chandlery/roots.Set. -/
namespace Go.AI.Rn
set_option maxRecDepth 100000 in
theorem run3 : s3.runs pt (smWith base il l3) 60 19 = true := by kernel_rfl
end Go.AI.Rn
