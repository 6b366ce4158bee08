-- Laid by wip/tools/hprint.py, a program of this repo, over the kit's print; not a text of print.sh.
import Derived.Test.YtonafabgbkohlaaQ0
import Derived.Test.YtonafabgbkohlaaQ10
import Derived.Test.YtonafabgbkohlaaQ12
import Derived.Test.YtonafabgbkohlaaQ15
import Derived.Test.YtonafabgbkohlaaQ16
import Derived.Test.YtonafabgbkohlaaQ17
import Derived.Test.YtonafabgbkohlaaQ18
import Derived.Test.YtonafabgbkohlaaQ19
namespace Go.Proofs.Ytonafabgbkohlaa.Q
open Go.RowKit Go.Proofs.Ytonafabgbkohlaa.Zip Go.Proofs.YtonafabgbkohlaaW.PrintWords Go.Proofs.YtonafabgbkohlaaW.PrintLast Go.Proofs.YtonafabgbkohlaaW.PrintMore
attribute [local go_sem] max2_int min2_int max_two min_two max_three min_three max_four min_four   -- for this text's walks alone
set_option linter.unusedVariables false
set_option linter.unusedSimpArgs false

/-! ### sandglasslaw05_RobinNil: given by hand -/
def sandglasslaw05_RobinNil.f (a0 : ByteArray) (a1 : Int) : Option Bool := some true
set_option maxHeartbeats 2000000 in
theorem sandglasslaw05_RobinNil.calls (a0 : ByteArray) (a1 : Int) (r : Bool) (w : World) (h : sandglasslaw05_RobinNil.f a0 a1 = some r) :
    Calls Try.prog 8 #[.string a0, .int .i64 a1] w fun e w' => e = .returned (.bool r) ∧ Below w.heap.size w w' := by
  obtain rfl := Option.some.inj h
  clear h
  by_cases hs : a0.size > 100
  · have d1 : decide ((100 : Int) < (a0.size : Int)) = true := decide_eq_true (by omega)
    go_enter Try.func8, Try.ntmps8
    go_wp2_with (go_at_call 11; refine (sandglasslaw05_live.calls _).mono ?_; rintro e w1 ⟨rfl, hb⟩)
    go_ret
    exact ⟨rfl, hb⟩
  have d1 : decide ((100 : Int) < (a0.size : Int)) = false := decide_eq_false (by omega)
  go_enter Try.func8, Try.ntmps8
  go_wp2_with (first | (go_at_call 25; refine (robin_Table_Get.calls_nil a0 _).mono ?_; rintro e w1 ⟨rfl, rfl⟩) | (go_at_call 21; refine (robin_Table_Put.calls_nil a0 a1 _).mono ?_; rintro e w1 ⟨rfl, rfl⟩) | (go_at_call 22; refine (robin_Table_Delete.calls_nil a0 _).mono ?_; rintro e w1 ⟨rfl, rfl⟩) | (go_at_call 15; refine (robin_Table_Len.calls_nil _).mono ?_; rintro e w1 ⟨rfl, rfl⟩) | (go_at_call 20; refine (robin_Table_Slots.calls_nil _).mono ?_; rintro e w1 ⟨rfl, rfl⟩) | (go_at_call 17; refine (robin_Table_Keys.calls_nil _).mono ?_; rintro e w2 ⟨v, rfl, ho, hb⟩; obtain ⟨Ak, ck, rfl⟩ := Kd.R_slice ho; have HB := Aside0.mk hb; clear ho hb) | (go_at_call 11; refine (sandglasslaw05_live.calls _).mono ?_; rintro e w3 ⟨rfl, hb⟩))
  go_ret
  exact ⟨rfl, HB.out.trans (hb.mono HB.out.size)⟩

end Go.Proofs.Ytonafabgbkohlaa.Q
