/- RobinPuts: told by its walk. -/
import Derived.Test.YtonafabgbkohlaaStRobinPuts
namespace Go.Proofs.Ytonafabgbkohlaa.robinPuts
open Go.Proofs.Ytonafabgbkohlaa.Q
theorem pure : Pure := by
  unfold Pure
  intros
  rfl
end Go.Proofs.Ytonafabgbkohlaa.robinPuts
