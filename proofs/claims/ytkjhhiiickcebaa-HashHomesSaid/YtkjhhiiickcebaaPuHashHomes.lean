/- HashHomes: proved of the printed functions. -/
import Derived.Test.YtkjhhiiickcebaaStHashHomes
import Derived.Test.YtkjhhiiickcebaaHashLa
namespace Go.Proofs.Ytkjhhiiickcebaa.hashHomes
open Go.RowKit Go.Proofs.YtkjhhiiickcebaaW.PrintWords Go.Proofs.YtkjhhiiickcebaaW.PrintLast Go.Proofs.YtkjhhiiickcebaaW.PrintMore Go.Proofs.Ytkjhhiiickcebaa.Q Go.Proofs.Ytkjhhiiickcebaa.La
set_option linter.unusedSimpArgs false
set_option linter.unusedVariables false
theorem home_no {n : Nat} (hn : 1 ≤ n) (x b : Int) (h : b < 1 ∨ 62 < b) : hash_Home.f n x b = some 0 := by
  obtain ⟨n, rfl⟩ : ∃ m, n = m + 1 := ⟨n - 1, by omega⟩
  unfold hash_Home.f
  by_cases h1 : b < 1
  · rw [if_pos h1]; simp [hash_Home.j0]
  · rw [if_neg h1, decide_eq_true (show b > 62 by omega)]; simp [hash_Home.j0]
theorem home_is {n : Nat} (hn : 1 ≤ n) {x : Int} (hx : U x) (b : Nat) (h0 : 1 ≤ b) (h1 : b ≤ 62) : hash_Home.f n x (b : Int) = some (x / 2 ^ (64 - b)) ∧ 0 ≤ x / 2 ^ (64 - b) ∧ x / 2 ^ (64 - b) < 2 ^ b := by
  obtain ⟨n, rfl⟩ : ∃ m, n = m + 1 := ⟨n - 1, by omega⟩
  unfold U at hx
  have p : (2 : Int) ^ b * 2 ^ (64 - b) = 18446744073709551616 := by rw [← Int.pow_add, show b + (64 - b) = 64 by omega]; rfl
  have p0 : (0 : Int) < 2 ^ (64 - b) := Int.pow_pos (by omega)
  have q0 : 0 ≤ x / 2 ^ (64 - b) := Int.ediv_nonneg hx.1 (by omega)
  have q1 : x / 2 ^ (64 - b) < 2 ^ b := Int.ediv_lt_of_lt_mul p0 (by omega)
  have r : (2 : Int) ^ b ≤ 2 ^ 62 := by
    have : (2 : Nat) ^ b ≤ 2 ^ 62 := Nat.pow_le_pow_right (by omega) h1
    exact_mod_cast this
  refine ⟨?_, q0, q1⟩
  unfold hash_Home.f
  have e : wrap64 (64 - (b : Int)) = ((64 - b : Nat) : Int) := by rw [wr (by omega) (by omega)]; omega
  have s : shr .u64 x ((64 - b : Nat) : Int) = x / 2 ^ (64 - b) := by
    unfold shr
    have : min (((64 - b : Nat) : Int)).toNat IntKind.u64.bits = 64 - b := by
      have : IntKind.u64.bits = 64 := rfl
      rw [this, Int.toNat_natCast]; omega
    rw [this]
  rw [if_neg (by omega), decide_eq_false (by omega)]
  simp only [hash_Home.j0, Bool.false_eq_true, if_false, e]
  rw [if_pos (by omega), s, wr (by omega) (by omega)]
theorem pure : Pure := by
  intro x b wx wb
  have hx : U x := u64_is wx
  have hb := i64_is wb
  refine ⟨60, ?_⟩
  unfold sandglasslaw03_HashHomes.f
  have T : (b < 1 ∨ 61 < b) → sandglasslaw03_HashHomes.j0 60 x b true = some true := by
    intro h
    simp only [show (60 : Nat) = 59 + 1 from rfl, sandglasslaw03_HashHomes.j0, if_true, live_at (show 40 ≤ 59 by omega), Option.bind_some]
    by_cases h2 : b = 62
    · rw [if_pos h2]
    · rw [if_neg h2, home_no (by omega) x b (by omega), Option.bind_some, if_pos rfl]
  by_cases h1 : b < 1
  · rw [if_pos h1, T (Or.inl h1)]
  rw [if_neg h1]
  by_cases h2 : b > 61
  · rw [decide_eq_true h2, T (Or.inr h2)]
  rw [decide_eq_false h2]
  obtain ⟨b, rfl⟩ : ∃ c : Nat, b = c := ⟨b.toNat, by omega⟩
  obtain ⟨a1, a2, a3⟩ := home_is (show 1 ≤ 59 by omega) hx b (by omega) (by omega)
  obtain ⟨c1, c2, c3⟩ := home_is (show 1 ≤ 59 by omega) hx (b + 1) (by omega) (by omega)
  have e : wrap64 ((b : Int) + 1) = ((b + 1 : Nat) : Int) := by rw [wr (by omega) (by omega)]; omega
  have r : (2 : Int) ^ b ≤ 2 ^ 61 := by
    have : (2 : Nat) ^ b ≤ 2 ^ 61 := Nat.pow_le_pow_right (by omega) (by omega)
    exact_mod_cast this
  have s : shl .i64 1 (IntKind.u64.wrap (b : Int)) = 2 ^ b := by
    have p0 : (0 : Int) < 2 ^ b := Int.pow_pos (by omega)
    rw [uw (by omega) (by omega)]
    unfold shl
    have : min ((b : Int)).toNat IntKind.i64.bits = b := by
      have : IntKind.i64.bits = 64 := rfl
      rw [this, Int.toNat_natCast]; omega
    rw [this, Int.one_mul]
    exact IntWalk.i64_in _ ⟨by omega, by omega⟩
  simp only [show (60 : Nat) = 59 + 1 from rfl, sandglasslaw03_HashHomes.j0, Bool.false_eq_true, if_false, a1, e, c1, Option.bind_some, live_at (show 40 ≤ 59 by omega)]
  rw [if_pos a2, if_pos (by rw [uw (by omega) (by omega)]; omega), s, if_pos a3]
  have h3 : x / 2 ^ (64 - b) = x / 2 ^ (64 - (b + 1)) / 2 := by
    have p0 : (0 : Int) ≤ 2 ^ (64 - (b + 1)) := Int.le_of_lt (Int.pow_pos (by omega))
    rw [Int.ediv_ediv_of_nonneg p0, show 64 - b = (64 - (b + 1)) + 1 by omega, Int.pow_succ]
  rw [h3] at a2 a3 ⊢
  generalize x / 2 ^ (64 - (b + 1)) = y at *
  rw [wr (x := 2 * (y / 2)) (by omega) (by omega), wr (x := 2 * (y / 2) + 1) (by omega) (by omega)]
  by_cases h4 : y = 2 * (y / 2)
  · rw [if_pos h4]
  · rw [if_neg h4, if_pos (by omega)]
end Go.Proofs.Ytkjhhiiickcebaa.hashHomes
