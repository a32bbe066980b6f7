/- One call's run: chandlery/roots.Live. -/
import Derived.Test.YtmmnkojglcgnaaaGreatRnP
namespace Go.AI.Rn
set_option maxRecDepth 100000 in
theorem run14 : s14.runs pt (smWith base il l14) 60 6 = true := by kernel_rfl
end Go.AI.Rn

/- One call's run: chandlery/inode.New. -/
namespace Go.AI.Rn
set_option maxRecDepth 100000 in
theorem run15 : s15.runs pt (smWith base il l15) 60 98 = true := by kernel_rfl
end Go.AI.Rn
