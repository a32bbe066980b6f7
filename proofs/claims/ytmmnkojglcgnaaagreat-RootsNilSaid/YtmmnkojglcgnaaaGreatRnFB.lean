/- Closed facts of the row of RootsNil, asked one by one. -/
import Derived.Test.YtmmnkojglcgnaaaGreatRows
import Derived.ProofKit
namespace Go.Proofs.YtmmnkojglcgnaaaGreat.rootsNil
theorem fact25 : (Tryz.prog.mayEnter) = true := by kernel_rfl
end Go.Proofs.YtmmnkojglcgnaaaGreat.rootsNil
