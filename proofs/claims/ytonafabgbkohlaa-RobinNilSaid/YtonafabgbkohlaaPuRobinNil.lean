/- RobinNil: proved of the functions. -/
import Derived.Test.YtonafabgbkohlaaStRobinNil
namespace Go.Proofs.Ytonafabgbkohlaa.robinNil
open Go.Proofs.Ytonafabgbkohlaa.Q
theorem pure : Pure := by
  intro a0 a1 _ _
  rfl
end Go.Proofs.Ytonafabgbkohlaa.robinNil
