/- One call's run: chandlery/db.both. -/
import Derived.Test.YtcfhmlpahjhigaaGreatDoorSnP
namespace Go.AI.Sn
set_option maxRecDepth 100000 in
theorem run34 : s34.runs pt (smWith base il l34) 60 75 = true := by kernel_rfl
end Go.AI.Sn

/- One call's run: chandlery/btree.Delete. -/
namespace Go.AI.Sn
set_option maxRecDepth 100000 in
theorem run35 : s35.runs pt (smWith base il l35) 60 148 = true := by kernel_rfl
end Go.AI.Sn
