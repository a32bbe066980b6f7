/- One call's run: chandlery/fsys.Stat. -/
import Derived.Test.YtcfhmlpahjhigaaGreatDoorSnP
namespace Go.AI.Sn
set_option maxRecDepth 100000 in
theorem run38 : s38.runs pt (smWith base il l38) 60 78 = true := by kernel_rfl
end Go.AI.Sn

/- One call's run: chandlery/dirs.Remove. -/
namespace Go.AI.Sn
set_option maxRecDepth 100000 in
theorem run39 : s39.runs pt (smWith base il l39) 60 232 = true := by kernel_rfl
end Go.AI.Sn
