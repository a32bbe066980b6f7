/- Closed facts of the row of RootsNil, asked one by one. -/
import Derived.Test.YtmmnkojglcgnaaaGreatRows
import Derived.ProofKit
namespace Go.Proofs.YtmmnkojglcgnaaaGreat.rootsNil
theorem fact1 : (laidOutB Tryz.prog) = true := by kernel_rfl
theorem fact2 : (mapsRowed Tryz.prog) = true := by kernel_rfl
theorem fact22 : ((Rows.rootsNilRow.plainKeys == Tryz.prog.plainKeys)) = true := by kernel_rfl
theorem fact24 : (Tryz.prog.stopsHeard) = true := by kernel_rfl
end Go.Proofs.YtmmnkojglcgnaaaGreat.rootsNil
