/- One call's run: chandlery/fsys.Create$1. -/
import Derived.Test.YtcfhmlpahjhigaaGreatDoorSnP
namespace Go.AI.Sn
set_option maxRecDepth 100000 in
theorem run26 : s26.runs pt (smWith base il l26) 60 291 = true := by kernel_rfl
end Go.AI.Sn

/- One call's run: chandlery/store.add. -/
namespace Go.AI.Sn
set_option maxRecDepth 100000 in
theorem run27 : s27.runs pt (smWith base il l27) 60 26 = true := by kernel_rfl
end Go.AI.Sn
