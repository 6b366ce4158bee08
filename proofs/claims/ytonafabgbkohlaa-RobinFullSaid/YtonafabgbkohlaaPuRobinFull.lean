/- RobinFull: told by its walk. -/
import Derived.Test.YtonafabgbkohlaaStRobinFull
namespace Go.Proofs.Ytonafabgbkohlaa.robinFull
open Go.Proofs.Ytonafabgbkohlaa.Q
theorem pure : Pure := by
  unfold Pure
  intros
  rfl
end Go.Proofs.Ytonafabgbkohlaa.robinFull
