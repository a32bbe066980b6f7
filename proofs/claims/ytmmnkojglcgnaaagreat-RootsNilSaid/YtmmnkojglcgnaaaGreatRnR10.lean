/- One call's run: chandlery/roots.Resolve. -/
import Derived.Test.YtmmnkojglcgnaaaGreatRnP
namespace Go.AI.Rn
set_option maxRecDepth 100000 in
theorem run20 : s20.runs pt (smWith base il l20) 60 4 = true := by kernel_rfl
end Go.AI.Rn

/- One call's run: chandlery/roots.kinds$2. -/
namespace Go.AI.Rn
set_option maxRecDepth 100000 in
theorem run21 : s21.runs pt (smWith base il l21) 60 33 = true := by kernel_rfl
end Go.AI.Rn
