/- One call's run: chandlery/fsys.place. -/
import Derived.Test.YtcfhmlpahjhigaaGreatDoorSnP
namespace Go.AI.Sn
set_option maxRecDepth 100000 in
theorem run6 : s6.runs pt (smWith base il l6) 60 109 = true := by kernel_rfl
end Go.AI.Sn

/- One call's run: chandlery/fsys.Create$1. -/
namespace Go.AI.Sn
set_option maxRecDepth 100000 in
theorem run7 : s7.runs pt (smWith base il l7) 60 291 = true := by kernel_rfl
end Go.AI.Sn
