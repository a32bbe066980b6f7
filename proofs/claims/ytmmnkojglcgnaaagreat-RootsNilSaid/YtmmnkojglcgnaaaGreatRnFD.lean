/- Closed facts of the row of RootsNil, asked one by one. -/
import Derived.Test.YtmmnkojglcgnaaaGreatRows
import Derived.ProofKit
namespace Go.Proofs.YtmmnkojglcgnaaaGreat.rootsNil
theorem fact9 : ((Rows.rootsNilRow.inPlace == Tryz.prog.inPlace 3)) = true := by kernel_rfl
theorem fact10 : ((Rows.rootsNilRow.unfollowed == Tryz.prog.unfollowed 3)) = true := by kernel_rfl
theorem fact11 : ((Rows.rootsNilRow.recurses == Tryz.prog.recurses 3)) = true := by kernel_rfl
theorem fact12 : ((Rows.rootsNilRow.named == Tryz.prog.varsNamed 3)) = true := by kernel_rfl
end Go.Proofs.YtmmnkojglcgnaaaGreat.rootsNil
