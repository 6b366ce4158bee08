-- Laid by wip/tools/hprint.py, a program of this repo, over the kit's print; not a text of print.sh.
import Derived.Test.YtonafabgbkohlaaQ0
namespace Go.Proofs.Ytonafabgbkohlaa.Q
open Go.RowKit Go.Proofs.Ytonafabgbkohlaa.Zip Go.Proofs.YtonafabgbkohlaaW.PrintWords Go.Proofs.YtonafabgbkohlaaW.PrintLast Go.Proofs.YtonafabgbkohlaaW.PrintMore
attribute [local go_sem] max2_int min2_int max_two min_two max_three min_three max_four min_four   -- for this text's walks alone
set_option linter.unusedVariables false
set_option linter.unusedSimpArgs false

/-! ### sandglassref03_Mix: function 35 -/
def sandglassref03_Mix.f (a0 : Int) : Option (Int) := some (Go.bits .xor .u64 (IntKind.u64.wrap ((Go.bits .xor .u64 (IntKind.u64.wrap ((Go.bits .xor .u64 a0 (a0 / 4294967296)) * 11400714819323198485)) ((IntKind.u64.wrap ((Go.bits .xor .u64 a0 (a0 / 4294967296)) * 11400714819323198485)) / 536870912)) * 13787848793156543929)) ((IntKind.u64.wrap ((Go.bits .xor .u64 (IntKind.u64.wrap ((Go.bits .xor .u64 a0 (a0 / 4294967296)) * 11400714819323198485)) ((IntKind.u64.wrap ((Go.bits .xor .u64 a0 (a0 / 4294967296)) * 11400714819323198485)) / 536870912)) * 13787848793156543929)) / 4294967296))
set_option maxHeartbeats 8000000 in
set_option maxRecDepth 100000 in
theorem sandglassref03_Mix.calls (a0 : Int) (r : Int) (w : World) (h : sandglassref03_Mix.f a0 = some r) :
    Calls Try.prog 35 #[.int .u64 a0] w fun e w' => e = .returned (.int .u64 r) ∧ Drawn0 w w' := by
  have H : (some (Go.bits .xor .u64 (IntKind.u64.wrap ((Go.bits .xor .u64 (IntKind.u64.wrap ((Go.bits .xor .u64 a0 (a0 / 4294967296)) * 11400714819323198485)) ((IntKind.u64.wrap ((Go.bits .xor .u64 a0 (a0 / 4294967296)) * 11400714819323198485)) / 536870912)) * 13787848793156543929)) ((IntKind.u64.wrap ((Go.bits .xor .u64 (IntKind.u64.wrap ((Go.bits .xor .u64 a0 (a0 / 4294967296)) * 11400714819323198485)) ((IntKind.u64.wrap ((Go.bits .xor .u64 a0 (a0 / 4294967296)) * 11400714819323198485)) / 536870912)) * 13787848793156543929)) / 4294967296))) = some r := h
  clear h
  obtain rfl := Option.some.inj H
  go_enter Try.func35, Try.ntmps35
  go_wp2
  go_ret
  exact ⟨by first | (with_reducible rfl) | rfl | (simp; done) | (simp [*]; done), by repeat (first | exact Drawn0.refl _ | apply Drawn0.step)⟩

end Go.Proofs.Ytonafabgbkohlaa.Q
