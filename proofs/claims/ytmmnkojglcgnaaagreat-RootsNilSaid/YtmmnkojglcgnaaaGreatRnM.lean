/- The main run. -/
import Derived.Test.YtmmnkojglcgnaaaGreatRnP
namespace Go.AI.Rn
set_option maxRecDepth 100000 in
theorem main (a b : List UInt8) : retIs (.bool true) (callF pt (smWith base il l28) 60 { fn := .func 3, args := [.str a, .str b] } st0) = true := by kernel_rfl
end Go.AI.Rn
