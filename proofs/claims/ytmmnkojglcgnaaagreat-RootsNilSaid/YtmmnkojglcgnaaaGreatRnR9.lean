/- One call's run: chandlery/roots.List. -/
import Derived.Test.YtmmnkojglcgnaaaGreatRnP
namespace Go.AI.Rn
set_option maxRecDepth 100000 in
theorem run18 : s18.runs pt (smWith base il l18) 60 5 = true := by kernel_rfl
end Go.AI.Rn

/- One call's run: chandlery/fsys.Read. -/
namespace Go.AI.Rn
set_option maxRecDepth 100000 in
theorem run19 : s19.runs pt (smWith base il l19) 60 36 = true := by kernel_rfl
end Go.AI.Rn
