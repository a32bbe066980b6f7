/- One call's run: chandlery/db.Closure. -/
import Derived.Test.YtmmnkojglcgnaaaGreatRnP
namespace Go.AI.Rn
set_option maxRecDepth 100000 in
theorem run26 : s26.runs pt (smWith base il l26) 60 16 = true := by kernel_rfl
end Go.AI.Rn

/- One call's run: chandlery/roots.Live. -/
namespace Go.AI.Rn
set_option maxRecDepth 100000 in
theorem run27 : s27.runs pt (smWith base il l27) 60 6 = true := by kernel_rfl
end Go.AI.Rn
