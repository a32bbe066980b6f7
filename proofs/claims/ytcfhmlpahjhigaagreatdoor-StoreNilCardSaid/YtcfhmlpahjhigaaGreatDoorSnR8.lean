/- One call's run: (*chandlery/sha256.Hash).Sum. -/
import Derived.Test.YtcfhmlpahjhigaaGreatDoorSnP
namespace Go.AI.Sn
set_option maxRecDepth 100000 in
theorem run16 : s16.runs pt (smWith base il l16) 60 125 = true := by kernel_rfl
end Go.AI.Sn

/- One call's run: chandlery/sha256.Sum. -/
namespace Go.AI.Sn
set_option maxRecDepth 100000 in
theorem run17 : s17.runs pt (smWith base il l17) 60 65 = true := by kernel_rfl
end Go.AI.Sn
