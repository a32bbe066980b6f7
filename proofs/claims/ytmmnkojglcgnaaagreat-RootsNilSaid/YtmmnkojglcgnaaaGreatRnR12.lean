/- One call's run: chandlery/db.Get. -/
import Derived.Test.YtmmnkojglcgnaaaGreatRnP
namespace Go.AI.Rn
set_option maxRecDepth 100000 in
theorem run24 : s24.runs pt (smWith base il l24) 60 31 = true := by kernel_rfl
end Go.AI.Rn

/- One call's run: chandlery/db.Get. -/
namespace Go.AI.Rn
set_option maxRecDepth 100000 in
theorem run25 : s25.runs pt (smWith base il l25) 60 31 = true := by kernel_rfl
end Go.AI.Rn
