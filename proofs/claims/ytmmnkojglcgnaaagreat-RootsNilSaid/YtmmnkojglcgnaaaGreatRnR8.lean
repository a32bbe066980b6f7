/- One call's run: chandlery/fsys.Create$1. -/
import Derived.Test.YtmmnkojglcgnaaaGreatRnP
namespace Go.AI.Rn
set_option maxRecDepth 100000 in
theorem run16 : s16.runs pt (smWith base il l16) 60 57 = true := by kernel_rfl
end Go.AI.Rn

/- One call's run: chandlery/fsys.Create. -/
namespace Go.AI.Rn
set_option maxRecDepth 100000 in
theorem run17 : s17.runs pt (smWith base il l17) 60 20 = true := by kernel_rfl
end Go.AI.Rn
