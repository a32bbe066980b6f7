/- One call's run: chandlery/sha256.Sum. -/
import Derived.Test.YtcfhmlpahjhigaaGreatDoorSnP
namespace Go.AI.Sn
set_option maxRecDepth 100000 in
theorem run12 : s12.runs pt (smWith base il l12) 60 65 = true := by kernel_rfl
end Go.AI.Sn

/- One call's run: (*chandlery/sha256.Hash).Sum. -/
namespace Go.AI.Sn
set_option maxRecDepth 100000 in
theorem run13 : s13.runs pt (smWith base il l13) 60 125 = true := by kernel_rfl
end Go.AI.Sn
