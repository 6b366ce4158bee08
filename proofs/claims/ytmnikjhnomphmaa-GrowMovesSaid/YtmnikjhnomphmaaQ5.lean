-- Laid by wip/tools/hprint.py, a program of this repo, over the kit's print; not a text of print.sh.
import Derived.Test.YtmnikjhnomphmaaQ0
import Derived.Test.YtmnikjhnomphmaaQ4
namespace Go.Proofs.Ytmnikjhnomphmaa.Q
open Go.RowKit Go.Proofs.Ytmnikjhnomphmaa.Zip Go.Proofs.YtmnikjhnomphmaaW.PrintWords Go.Proofs.YtmnikjhnomphmaaW.PrintLast Go.Proofs.YtmnikjhnomphmaaW.PrintMore
attribute [local go_sem] max2_int min2_int max_two min_two max_three min_three max_four min_four   -- for this text's walks alone
set_option linter.unusedVariables false
set_option linter.unusedSimpArgs false

/-! ### hash_Mix: given by hand -/
def mix1 (n : Int) : Int := IntKind.u64.wrap (Go.bits .xor .u64 n (n / 4294967296) * 11400714819323198485)
def mix2 (n : Int) : Int := IntKind.u64.wrap (Go.bits .xor .u64 n (n / 536870912) * 13787848793156543929)
def mix3 (n : Int) : Int := IntKind.u64.wrap (Go.bits .xor .u64 n (n / 4294967296) * 1)
def mixK (k : Nat) (n : Int) : Int := if k = 0 then n else if k = 1 then mix1 n else if k = 2 then mix2 (mix1 n) else mix3 (mix2 (mix1 n))
def hash_Mix.f (a0 : Int) : Option (Int) := some (mix3 (mix2 (mix1 a0)))
theorem turn_at0 (W : World) : (Instr.index 115 (.agg #[.int .u64 32, .int .u64 11400714819323198485, .int .u64 29, .int .u64 13787848793156543929, .int .u64 32, .int .u64 1]) (.int .i64 0)).run Try.prog W = .ok (.agg #[.int .u64 32, .int .u64 11400714819323198485]) W := by kernel_rfl
theorem turn_at1 (W : World) : (Instr.index 115 (.agg #[.int .u64 32, .int .u64 11400714819323198485, .int .u64 29, .int .u64 13787848793156543929, .int .u64 32, .int .u64 1]) (.int .i64 1)).run Try.prog W = .ok (.agg #[.int .u64 29, .int .u64 13787848793156543929]) W := by kernel_rfl
theorem turn_at2 (W : World) : (Instr.index 115 (.agg #[.int .u64 32, .int .u64 11400714819323198485, .int .u64 29, .int .u64 13787848793156543929, .int .u64 32, .int .u64 1]) (.int .i64 2)).run Try.prog W = .ok (.agg #[.int .u64 32, .int .u64 1]) W := by kernel_rfl
theorem ret_u {a b : Int} (h : a = b) : Ending.returned (.int .u64 a) = .returned (.int .u64 b) := by rw [h]
set_option maxHeartbeats 4000000 in
theorem mix_any (n : Int) (w : World) : Calls Try.prog 73 #[.int .u64 n] w fun e w' => e = .returned (.int .u64 (mix3 (mix2 (mix1 n)))) ∧ Below w.heap.size w w' := by
  go_enter Try.func73, Try.ntmps73
  go_wp2_with (first | (go_at_call 75; refine (hash_turns.calls _ _ _ _ _ _ _ rfl).mono ?_; rintro e w1 ⟨rfl, hb⟩))
  have HB0 := Aside0.mk hb
  clear hb
  go_loopw [0, 6] (fun a i wr => ∃ k : Nat, k ≤ 3 ∧ i = .int .i64 k ∧ a = .int .u64 (mixK k n) ∧ Aside0 (Below w.heap.size w wr)) (fun _ i _ => 3 - (intOf i).toNat)
  case atStart => exact ⟨0, by omega, rfl, rfl, HB0⟩
  case round =>
    obtain ⟨k, hk, rfl, rfl, HB⟩ := hrel
    have hk5 : k = 0 ∨ k = 1 ∨ k = 2 ∨ k = 3 := by omega
    clear hk
    rcases hk5 with rfl | rfl | rfl | rfl
    · have hi := turn_at0
      go_wp2
      go_roundw
      case rel => exact ⟨1, by omega, by go_num, by simp [mixK, mix1], ⟨by first | exact below_alloc HB.out _ | exact below_drew1 (below_alloc HB.out _)⟩⟩
      case measure => simp [intOf]
    · have hi := turn_at1
      go_wp2
      go_roundw
      case rel => exact ⟨2, by omega, by go_num, by simp [mixK, mix2], ⟨by first | exact below_alloc HB.out _ | exact below_drew1 (below_alloc HB.out _)⟩⟩
      case measure => simp [intOf]
    · have hi := turn_at2
      go_wp2
      go_roundw
      case rel => exact ⟨3, by omega, by go_num, by simp [mixK, mix3], ⟨by first | exact below_alloc HB.out _ | exact below_drew1 (below_alloc HB.out _)⟩⟩
      case measure => simp [intOf]
    · go_wp2
      go_ret
      exact ⟨ret_u (by simp [mixK]), HB.out⟩
theorem hash_Mix.calls (a0 : Int) (r : Int) (w : World) (h : hash_Mix.f a0 = some r) :
    Calls Try.prog 73 #[.int .u64 a0] w fun e w' => e = .returned (.int .u64 r) ∧ Below w.heap.size w w' := by
  obtain rfl := Option.some.inj h
  exact mix_any a0 w

end Go.Proofs.Ytmnikjhnomphmaa.Q
