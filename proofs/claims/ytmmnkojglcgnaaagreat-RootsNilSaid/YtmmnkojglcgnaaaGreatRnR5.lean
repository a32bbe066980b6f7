/- One call's run: chandlery/roots.Resolve. -/
import Derived.Test.YtmmnkojglcgnaaaGreatRnP
namespace Go.AI.Rn
set_option maxRecDepth 100000 in
theorem run10 : s10.runs pt (smWith base il l10) 60 4 = true := by kernel_rfl
end Go.AI.Rn

/- One call's run: chandlery/db.Get. -/
namespace Go.AI.Rn
set_option maxRecDepth 100000 in
theorem run11 : s11.runs pt (smWith base il l11) 60 31 = true := by kernel_rfl
end Go.AI.Rn
