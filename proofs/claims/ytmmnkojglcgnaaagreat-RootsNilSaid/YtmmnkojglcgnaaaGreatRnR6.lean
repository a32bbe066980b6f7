/- One call's run: chandlery/db.Get. -/
import Derived.Test.YtmmnkojglcgnaaaGreatRnP
namespace Go.AI.Rn
set_option maxRecDepth 100000 in
theorem run12 : s12.runs pt (smWith base il l12) 60 31 = true := by kernel_rfl
end Go.AI.Rn

/- One call's run: chandlery/db.Closure. -/
namespace Go.AI.Rn
set_option maxRecDepth 100000 in
theorem run13 : s13.runs pt (smWith base il l13) 60 16 = true := by kernel_rfl
end Go.AI.Rn
