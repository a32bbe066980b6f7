/- One call's run: chandlery/sha256.mix. -/
import Derived.Test.YtcfhmlpahjhigaaGreatDoorSnP
namespace Go.AI.Sn
set_option maxRecDepth 100000 in
theorem run10 : s10.runs pt (smWith base il l10) 60 284 = true := by kernel_rfl
end Go.AI.Sn

/- One call's run: (*chandlery/sha256.Hash).Sum. -/
namespace Go.AI.Sn
set_option maxRecDepth 100000 in
theorem run11 : s11.runs pt (smWith base il l11) 60 125 = true := by kernel_rfl
end Go.AI.Sn
