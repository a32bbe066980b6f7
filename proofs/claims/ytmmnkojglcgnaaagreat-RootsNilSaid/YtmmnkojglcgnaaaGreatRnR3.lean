/- One call's run: chandlery/db.Get. -/
import Derived.Test.YtmmnkojglcgnaaaGreatRnP
namespace Go.AI.Rn
set_option maxRecDepth 100000 in
theorem run6 : s6.runs pt (smWith base il l6) 60 31 = true := by kernel_rfl
end Go.AI.Rn

/- One call's run: chandlery/db.Closure. -/
namespace Go.AI.Rn
set_option maxRecDepth 100000 in
theorem run7 : s7.runs pt (smWith base il l7) 60 16 = true := by kernel_rfl
end Go.AI.Rn
