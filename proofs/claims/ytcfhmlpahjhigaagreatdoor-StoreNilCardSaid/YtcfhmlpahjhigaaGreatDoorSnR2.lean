/- One call's run: (*chandlery/sha256.Hash).Sum. -/
import Derived.Test.YtcfhmlpahjhigaaGreatDoorSnP
namespace Go.AI.Sn
set_option maxRecDepth 100000 in
theorem run4 : s4.runs pt (smWith base il l4) 60 125 = true := by kernel_rfl
end Go.AI.Sn

/- One call's run: chandlery/names.Make. -/
namespace Go.AI.Sn
set_option maxRecDepth 100000 in
theorem run5 : s5.runs pt (smWith base il l5) 60 66 = true := by kernel_rfl
end Go.AI.Sn
