/- The plain law of MoneyValids. -/
import Derived.Test.YtnjhjaifmgjljaaDoorQa
namespace Go.Proofs.YtnjhjaifmgjljaaDoor.Pure
open Go.RowKit Go.Proofs.YtnjhjaifmgjljaaDoor.PM Go.Proofs.YtnjhjaifmgjljaaDoor.Q
theorem MoneyValids (x0 : S23) : levylaw1_MoneyValids.f x0.f0 x0.f1 = some true := by
  unfold levylaw1_MoneyValids.f
  rw [money_valid, ref_valid]
  simp
end Go.Proofs.YtnjhjaifmgjljaaDoor.Pure
