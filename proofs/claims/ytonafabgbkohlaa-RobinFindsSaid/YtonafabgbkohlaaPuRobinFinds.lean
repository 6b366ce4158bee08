/- RobinFinds: told by its walk. -/
import Derived.Test.YtonafabgbkohlaaStRobinFinds
namespace Go.Proofs.Ytonafabgbkohlaa.robinFinds
open Go.Proofs.Ytonafabgbkohlaa.Q
theorem pure : Pure := by
  unfold Pure
  intros
  rfl
end Go.Proofs.Ytonafabgbkohlaa.robinFinds
