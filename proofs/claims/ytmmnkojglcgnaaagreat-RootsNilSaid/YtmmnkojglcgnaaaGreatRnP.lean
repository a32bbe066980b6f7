/- The program's tables. -/
import Derived.Test.YtmmnkojglcgnaaaGreatRnD
import Derived.Test.YtmmnkojglcgnaaaGreatProg
namespace Go.AI.Rn
open Go.Proofs
noncomputable def pt : PT := ptOf Tryz.prog (eqsOf [40, 105])
end Go.AI.Rn
