/- The main runs. -/
import Derived.Test.YtcfhmlpahjhigaaGreatDoorSnP
import Derived.Test.YtcfhmlpahjhigaaGreatDoorZE
namespace Go.AI.Sn
set_option maxRecDepth 100000 in
theorem main1 (a : List UInt8) : retIs (.bool true) (callF pt (smWith base il l42) 60 { fn := .func 3, args := [.str a, .nilslice] } st1) = true := by kernel_rfl
set_option maxRecDepth 100000 in
theorem main2 (a : List UInt8) (o n c : Nat) : retIs (.bool true) (callF pt (smWith base il l42) 60 { fn := .func 3, args := [.str a, .slice 0 o n (.exact c) 4] } st1) = true := by kernel_rfl
end Go.AI.Sn
