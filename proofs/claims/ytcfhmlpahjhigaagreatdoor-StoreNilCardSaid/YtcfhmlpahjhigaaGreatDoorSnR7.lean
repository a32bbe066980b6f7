/- One call's run: chandlery/names.Make. -/
import Derived.Test.YtcfhmlpahjhigaaGreatDoorSnP
namespace Go.AI.Sn
set_option maxRecDepth 100000 in
theorem run14 : s14.runs pt (smWith base il l14) 60 66 = true := by kernel_rfl
end Go.AI.Sn

/- One call's run: chandlery/sha256.mix. -/
namespace Go.AI.Sn
set_option maxRecDepth 100000 in
theorem run15 : s15.runs pt (smWith base il l15) 60 284 = true := by kernel_rfl
end Go.AI.Sn
