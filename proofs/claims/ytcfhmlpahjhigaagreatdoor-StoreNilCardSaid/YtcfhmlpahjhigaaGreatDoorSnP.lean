/- The program's tables. -/
import Derived.Test.YtcfhmlpahjhigaaGreatDoorSnD
import Derived.Test.YtcfhmlpahjhigaaGreatDoorProg
namespace Go.AI.Sn
open Go.Proofs
noncomputable def pt : PT := ptOf Tryz.prog (eqsOf [84, 94])
end Go.AI.Sn
