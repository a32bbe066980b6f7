/- One call's run: chandlery/chandlerylaw24.fresh. -/
import Derived.Test.YtcfhmlpahjhigaaGreatDoorSnP
namespace Go.AI.Sn
set_option maxRecDepth 100000 in
theorem run0 : s0.runs pt (smWith base il l0) 60 46 = true := by kernel_rfl
end Go.AI.Sn

/- One call's run: chandlery/sha256.mix. -/
namespace Go.AI.Sn
set_option maxRecDepth 100000 in
theorem run1 : s1.runs pt (smWith base il l1) 60 284 = true := by kernel_rfl
end Go.AI.Sn
