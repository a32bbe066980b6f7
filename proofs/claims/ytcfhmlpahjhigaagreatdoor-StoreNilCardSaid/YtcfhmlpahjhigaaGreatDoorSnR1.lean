/- One call's run: (*chandlery/sha256.Hash).Sum. -/
import Derived.Test.YtcfhmlpahjhigaaGreatDoorSnP
namespace Go.AI.Sn
set_option maxRecDepth 100000 in
theorem run2 : s2.runs pt (smWith base il l2) 60 125 = true := by kernel_rfl
end Go.AI.Sn

/- One call's run: chandlery/sha256.Sum. -/
namespace Go.AI.Sn
set_option maxRecDepth 100000 in
theorem run3 : s3.runs pt (smWith base il l3) 60 65 = true := by kernel_rfl
end Go.AI.Sn
