/- One call's run: chandlery/names.Make. -/
import Derived.Test.YtcfhmlpahjhigaaGreatDoorSnP
namespace Go.AI.Sn
set_option maxRecDepth 100000 in
theorem run20 : s20.runs pt (smWith base il l20) 60 66 = true := by kernel_rfl
end Go.AI.Sn

/- One call's run: chandlery/db.Get. -/
namespace Go.AI.Sn
set_option maxRecDepth 100000 in
theorem run21 : s21.runs pt (smWith base il l21) 60 30 = true := by kernel_rfl
end Go.AI.Sn
