/- Closed facts of the row of RootsNil, asked one by one. -/
import Derived.Test.YtmmnkojglcgnaaaGreatRows
import Derived.ProofKit
namespace Go.Proofs.YtmmnkojglcgnaaaGreat.rootsNil
theorem fact26 : ((Rows.rootsNilRow.lifted == Tryz.prog.liftsFinal)) = true := by kernel_rfl
theorem fact27 : ((Tryz.prog.make == some Rows.rootsNilRow.make)) = true := by kernel_rfl
end Go.Proofs.YtmmnkojglcgnaaaGreat.rootsNil
