-- Laid by wip/tools/hprint.py, a program of this repo, over the kit's print; not a text of print.sh.
import Derived.Test.YtkjhhiiickcebaaQ0
import Derived.Test.YtkjhhiiickcebaaQ1
import Derived.Test.YtkjhhiiickcebaaQ2
namespace Go.Proofs.Ytkjhhiiickcebaa.Q
open Go.RowKit Go.Proofs.Ytkjhhiiickcebaa.Zip Go.Proofs.YtkjhhiiickcebaaW.PrintWords Go.Proofs.YtkjhhiiickcebaaW.PrintLast Go.Proofs.YtkjhhiiickcebaaW.PrintMore
attribute [local go_sem] max2_int min2_int max_two min_two max_three min_three max_four min_four   -- for this text's walks alone
set_option linter.unusedVariables false
set_option linter.unusedSimpArgs false

/-! ### hash_Unmix: given by hand -/
def un1 (n : Int) : Int := Go.bits .xor .u64 (IntKind.u64.wrap n) (IntKind.u64.wrap n / 4294967296)
def un2 (n : Int) : Int := Go.bits .xor .u64 (IntKind.u64.wrap (n * 10871156337175269513)) (Go.bits .xor .u64 (IntKind.u64.wrap (n * 10871156337175269513)) (IntKind.u64.wrap (n * 10871156337175269513) / 536870912) / 536870912)
def un3 (n : Int) : Int := Go.bits .xor .u64 (IntKind.u64.wrap (n * 17428512612931826493)) (IntKind.u64.wrap (n * 17428512612931826493) / 4294967296)
def unK (k : Nat) (n : Int) : Int := if k = 0 then n else if k = 1 then un1 n else if k = 2 then un2 (un1 n) else un3 (un2 (un1 n))
def hash_Unmix.f (a0 : Int) : Option (Int) := some (un3 (un2 (un1 a0)))
theorem inv_1 : hash_inverse.f 20 1 = some 1 := by decide +kernel
theorem inv_2 : hash_inverse.f 20 13787848793156543929 = some 10871156337175269513 := by decide +kernel
theorem inv_3 : hash_inverse.f 20 11400714819323198485 = some 17428512612931826493 := by decide +kernel
def turnRow : Array Value := #[.int .u64 32, .int .u64 11400714819323198485, .int .u64 29, .int .u64 13787848793156543929, .int .u64 32, .int .u64 1]
theorem row_cell {w : World} {g : Nat} {t : TypeId} {cs : Array Value} (h : Aside0 (w.heap[g]? = some (.cells cs t (0, 0)))) (i : Nat) (v : Value) (e : cs[i]? = some v) : w.cell? ⟨g, i, none⟩ = some v := (blk_cell h.out i).trans e
theorem ret_v {a b : Int} (h : a = b) : Ending.returned (.int .u64 a) = .returned (.int .u64 b) := by rw [h]
set_option maxHeartbeats 8000000 in
theorem unmix_any (n : Int) (w : World) : Calls Try.prog 9 #[.int .u64 n] w fun e w' => e = .returned (.int .u64 (un3 (un2 (un1 n)))) ∧ Below w.heap.size w w' := by
  go_enter Try.func9, Try.ntmps9
  go_wp2_with (first | (go_at_call 20; refine (hash_turns.calls _ _ _ _ _ _ _ rfl).mono ?_; rintro e w1 ⟨rfl, hb⟩))
  have HB0 := Aside0.mk hb
  clear hb
  go_loopw [0, 4] (fun a i wr => ∃ k : Nat, k ≤ 3 ∧ i = .int .i64 (2 - (k : Int)) ∧ a = .int .u64 (unK k n) ∧ Aside0 (wr.heap[w1.heap.size]? = some (.cells turnRow 42 (0, 0))) ∧ Aside0 (Below w.heap.size w wr)) (fun _ i _ => (intOf i + 1).toNat)
  case atStart => exact ⟨0, by omega, rfl, rfl, ⟨blk_new _ _⟩, ⟨below_alloc HB0.out _⟩⟩
  case round =>
    obtain ⟨k, hk, rfl, rfl, BA, HB⟩ := hrel
    have hk5 : k = 0 ∨ k = 1 ∨ k = 2 ∨ k = 3 := by omega
    clear hk
    rcases hk5 with rfl | rfl | rfl | rfl
    · rw [show (2 : Int) - ((0 : Nat) : Int) = 2 from rfl]
      obtain ⟨u, hq⟩ : ∃ u, u = unK 0 n := ⟨_, rfl⟩
      rw [← hq]
      have HQ := Aside0.mk hq
      clear hq
      have r0 := row_cell BA 4 (.int .u64 32) rfl
      have r1 := row_cell BA 5 (.int .u64 1) rfl
      go_wp2_with (first | (go_at_call 21; refine (hash_inverse.calls _ _ _ _ inv_1).mono ?_; rintro e w2 ⟨rfl, ⟨nd, rfl⟩⟩))
      obtain ⟨m, hm⟩ : ∃ m, m = IntKind.u64.wrap u := ⟨_, rfl⟩
      rw [← hm]
      have HM := Aside0.mk hm
      clear hm
      go_loop [6, 7] (fun x d => (∃ q : Nat, q ≤ 1 ∧ d = .int .u64 (if q = 0 then 32 else 64) ∧ x = .int .u64 (if q = 0 then m else Go.bits .xor .u64 (m) ((m) / 4294967296)))) (fun _ d => (64 - intOf d).toNat)
      case atStart => exact ⟨0, by omega, rfl, rfl⟩
      case round =>
        obtain ⟨q, hq2, rfl, rfl⟩ := hrel
        have hq3 : q = 0 ∨ q = 1 := by omega
        clear hq2
        rcases hq3 with rfl | rfl
        · (try simp only [if_true, if_false, reduceIte, Nat.one_ne_zero, Nat.reduceEqDiff])
          go_wp2
          go_round
          case rel => exact ⟨1, by omega, rfl, rfl⟩
          case measure => simp [intOf]
        · (try simp only [if_true, if_false, reduceIte, Nat.one_ne_zero, Nat.reduceEqDiff])
          go_wp2
          go_roundw
          case rel => exact ⟨1, by omega, by go_num, by rw [HM.out, HQ.out]; simp [unK, un1], ⟨blk_drewN (blk_alloc BA.out _) _⟩, ⟨pw_below_drewN (below_alloc HB.out _) _⟩⟩
          case measure => simp [intOf]
    · rw [show (2 : Int) - ((1 : Nat) : Int) = 1 from rfl]
      obtain ⟨u, hq⟩ : ∃ u, u = unK 1 n := ⟨_, rfl⟩
      rw [← hq]
      have HQ := Aside0.mk hq
      clear hq
      have r0 := row_cell BA 2 (.int .u64 29) rfl
      have r1 := row_cell BA 3 (.int .u64 13787848793156543929) rfl
      go_wp2_with (first | (go_at_call 21; refine (hash_inverse.calls _ _ _ _ inv_2).mono ?_; rintro e w2 ⟨rfl, ⟨nd, rfl⟩⟩))
      obtain ⟨m, hm⟩ : ∃ m, m = IntKind.u64.wrap (u * 10871156337175269513) := ⟨_, rfl⟩
      rw [← hm]
      have HM := Aside0.mk hm
      clear hm
      go_loop [6, 7] (fun x d => (∃ q : Nat, q ≤ 2 ∧ d = .int .u64 (if q = 0 then 29 else if q = 1 then 58 else 87) ∧ x = .int .u64 (if q = 0 then m else if q = 1 then Go.bits .xor .u64 (m) ((m) / 536870912) else Go.bits .xor .u64 (m) ((Go.bits .xor .u64 (m) ((m) / 536870912)) / 536870912)))) (fun _ d => (64 - intOf d).toNat)
      case atStart => exact ⟨0, by omega, rfl, rfl⟩
      case round =>
        obtain ⟨q, hq2, rfl, rfl⟩ := hrel
        have hq3 : q = 0 ∨ q = 1 ∨ q = 2 := by omega
        clear hq2
        rcases hq3 with rfl | rfl | rfl
        · (try simp only [if_true, if_false, reduceIte, Nat.one_ne_zero, Nat.reduceEqDiff])
          go_wp2
          go_round
          case rel => exact ⟨1, by omega, rfl, rfl⟩
          case measure => simp [intOf]
        · (try simp only [if_true, if_false, reduceIte, Nat.one_ne_zero, Nat.reduceEqDiff])
          go_wp2
          go_round
          case rel => exact ⟨2, by omega, rfl, rfl⟩
          case measure => simp [intOf]
        · (try simp only [if_true, if_false, reduceIte, Nat.one_ne_zero, Nat.reduceEqDiff])
          go_wp2
          go_roundw
          case rel => exact ⟨2, by omega, by go_num, by rw [HM.out, HQ.out]; simp [unK, un2], ⟨blk_drewN (blk_alloc BA.out _) _⟩, ⟨pw_below_drewN (below_alloc HB.out _) _⟩⟩
          case measure => simp [intOf]
    · rw [show (2 : Int) - ((2 : Nat) : Int) = 0 from rfl]
      obtain ⟨u, hq⟩ : ∃ u, u = unK 2 n := ⟨_, rfl⟩
      rw [← hq]
      have HQ := Aside0.mk hq
      clear hq
      have r0 := row_cell BA 0 (.int .u64 32) rfl
      have r1 := row_cell BA 1 (.int .u64 11400714819323198485) rfl
      go_wp2_with (first | (go_at_call 21; refine (hash_inverse.calls _ _ _ _ inv_3).mono ?_; rintro e w2 ⟨rfl, ⟨nd, rfl⟩⟩))
      obtain ⟨m, hm⟩ : ∃ m, m = IntKind.u64.wrap (u * 17428512612931826493) := ⟨_, rfl⟩
      rw [← hm]
      have HM := Aside0.mk hm
      clear hm
      go_loop [6, 7] (fun x d => (∃ q : Nat, q ≤ 1 ∧ d = .int .u64 (if q = 0 then 32 else 64) ∧ x = .int .u64 (if q = 0 then m else Go.bits .xor .u64 (m) ((m) / 4294967296)))) (fun _ d => (64 - intOf d).toNat)
      case atStart => exact ⟨0, by omega, rfl, rfl⟩
      case round =>
        obtain ⟨q, hq2, rfl, rfl⟩ := hrel
        have hq3 : q = 0 ∨ q = 1 := by omega
        clear hq2
        rcases hq3 with rfl | rfl
        · (try simp only [if_true, if_false, reduceIte, Nat.one_ne_zero, Nat.reduceEqDiff])
          go_wp2
          go_round
          case rel => exact ⟨1, by omega, rfl, rfl⟩
          case measure => simp [intOf]
        · (try simp only [if_true, if_false, reduceIte, Nat.one_ne_zero, Nat.reduceEqDiff])
          go_wp2
          go_roundw
          case rel => exact ⟨3, by omega, by go_num, by rw [HM.out, HQ.out]; simp [unK, un3], ⟨blk_drewN (blk_alloc BA.out _) _⟩, ⟨pw_below_drewN (below_alloc HB.out _) _⟩⟩
          case measure => simp [intOf]
    · go_wp2
      go_ret
      exact ⟨ret_v (by simp [unK]), HB.out⟩
theorem hash_Unmix.calls (a0 : Int) (r : Int) (w : World) (h : hash_Unmix.f a0 = some r) :
    Calls Try.prog 9 #[.int .u64 a0] w fun e w' => e = .returned (.int .u64 r) ∧ Below w.heap.size w w' := by
  obtain rfl := Option.some.inj h
  exact unmix_any a0 w

end Go.Proofs.Ytkjhhiiickcebaa.Q
