/- One call's run: chandlery/roots.Live. -/
import Derived.Test.YtmmnkojglcgnaaaGreatRnP
namespace Go.AI.Rn
set_option maxRecDepth 100000 in
theorem run8 : s8.runs pt (smWith base il l8) 60 6 = true := by kernel_rfl
end Go.AI.Rn

/- One call's run: chandlery/roots.List. -/
namespace Go.AI.Rn
set_option maxRecDepth 100000 in
theorem run9 : s9.runs pt (smWith base il l9) 60 5 = true := by kernel_rfl
end Go.AI.Rn
