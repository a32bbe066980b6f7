/- One call's run: chandlery/fsys.place. -/
import Derived.Test.YtcfhmlpahjhigaaGreatDoorSnP
namespace Go.AI.Sn
set_option maxRecDepth 100000 in
theorem run24 : s24.runs pt (smWith base il l24) 60 109 = true := by kernel_rfl
end Go.AI.Sn

/- One call's run: chandlery/inode.New. -/
namespace Go.AI.Sn
set_option maxRecDepth 100000 in
theorem run25 : s25.runs pt (smWith base il l25) 60 54 = true := by kernel_rfl
end Go.AI.Sn
