/- The functions of layer 2 (nums), told in closed form: sums, products, differences, quotients. -/
import Derived.Test.YtbjnkhlepmocjaaQ1
import Derived.Test.YtbjnkhlepmocjaaQ4
import Derived.Test.YtbjnkhlepmocjaaQ6
import Derived.Test.YtbjnkhlepmocjaaQ8
import Derived.Test.YtbjnkhlepmocjaaQ15
import Derived.IntWalk
namespace Go.Proofs.Ytbjnkhlepmocjaa.La
open Go.RowKit Go.Proofs.YtbjnkhlepmocjaaW.PrintWords Go.Proofs.YtbjnkhlepmocjaaW.PrintLast Go.Proofs.YtbjnkhlepmocjaaW.PrintMore Go.Proofs.Ytbjnkhlepmocjaa.Q
set_option linter.unusedSimpArgs false
set_option linter.unusedVariables false
theorem wr {x : Int} (h0 : -9223372036854775808 ≤ x) (h1 : x < 9223372036854775808) : wrap64 x = x := by unfold wrap64; omega
theorem uw {x : Int} (h0 : 0 ≤ x) (h1 : x ≤ 18446744073709551615) : IntKind.u64.wrap x = x := IntWalk.u64_in x ⟨h0, h1⟩
theorem uwm (x : Int) : IntKind.u64.wrap x = x % 18446744073709551616 := IntKind.wrap_u64 x
theorem u64_is {v : Int} (h : (Lit.int .u64 v).wf = true) : 0 ≤ v ∧ v ≤ 18446744073709551615 := by
  simp [Lit.wf, IntKind.min, IntKind.max, IntKind.signed, IntKind.bits] at h
  omega
theorem i64_is {v : Int} (h : (Lit.int .i64 v).wf = true) : -9223372036854775808 ≤ v ∧ v ≤ 9223372036854775807 := by
  simp [Lit.wf, IntKind.min, IntKind.max, IntKind.signed, IntKind.bits] at h
  omega
theorem mul_le {a b p q : Int} (h0 : 0 ≤ a) (h1 : a ≤ p) (h2 : 0 ≤ b) (h3 : b ≤ q) : 0 ≤ a * b ∧ a * b ≤ p * q :=
  ⟨Int.mul_nonneg h0 h2, Int.mul_le_mul h1 h3 h2 (Int.le_trans h0 h1)⟩
def addV (a b m : Int) : Int := if a + b ≤ m then a + b else m
def mulV (a b m : Int) : Int := if a * b ≤ m then a * b else m
def subV (a b : Int) : Int := if b > a then 0 else a - b
def upV (a b : Int) : Int := if b = 0 then 0 else if a % b = 0 then a / b else a / b + 1
theorem add_f {a b m : Int} (a0 : 0 ≤ a) (a1 : a ≤ 18446744073709551615) (b0 : 0 ≤ b) (b1 : b ≤ 18446744073709551615) (m0 : 0 ≤ m) (m1 : m ≤ 18446744073709551615) : nums_Add.f a b m = some (addV a b m) := by
  unfold nums_Add.f addV mn
  rw [uwm]
  split
  · congr 1; split <;> omega
  · congr 1; split <;> split <;> omega
theorem add_bd {a b m : Int} (a0 : 0 ≤ a) (b0 : 0 ≤ b) (m0 : 0 ≤ m) : 0 ≤ addV a b m ∧ addV a b m ≤ m := by unfold addV; split <;> omega
theorem mul_bd {a b m : Int} (a0 : 0 ≤ a) (b0 : 0 ≤ b) (m0 : 0 ≤ m) : 0 ≤ mulV a b m ∧ mulV a b m ≤ m := by
  have := Int.mul_nonneg a0 b0
  unfold mulV; split <;> omega
theorem mul_f (k : Nat) {a b m : Int} (a0 : 0 ≤ a) (a1 : a ≤ 18446744073709551615) (b0 : 0 ≤ b) (b1 : b ≤ 18446744073709551615) (m0 : 0 ≤ m) (m1 : m ≤ 18446744073709551615) : nums_Mul.f (k + 1) a b m = some (mulV a b m) := by
  have ea : a / 4294967296 * 4294967296 + a % 4294967296 = a := by omega
  have eb : b / 4294967296 * 4294967296 + b % 4294967296 = b := by omega
  unfold nums_Mul.f nums_parts.f
  simp only [Option.bind_some]
  generalize hu : a / 4294967296 = u at *
  generalize hl : a % 4294967296 = l at *
  generalize hv : b / 4294967296 = v at *
  generalize hk : b % 4294967296 = q at *
  have u0 : 0 ≤ u ∧ u ≤ 4294967295 := by omega
  have l0 : 0 ≤ l ∧ l ≤ 4294967295 := by omega
  have v0 : 0 ≤ v ∧ v ≤ 4294967295 := by omega
  have q0 : 0 ≤ q ∧ q ≤ 4294967295 := by omega
  have muq := mul_le u0.1 u0.2 q0.1 q0.2
  have mlv := mul_le l0.1 l0.2 v0.1 v0.2
  have mlq := mul_le l0.1 l0.2 q0.1 q0.2
  have muv := Int.mul_nonneg u0.1 v0.1
  have e : a * b = u * v * 18446744073709551616 + (u * q + l * v) * 4294967296 + l * q := by
    rw [← ea, ← eb]
    simp only [Int.add_mul, Int.mul_add]
    have h1 : u * 4294967296 * (v * 4294967296) = u * v * 18446744073709551616 := by
      rw [Int.mul_assoc, Int.mul_left_comm 4294967296 v, ← Int.mul_assoc]; rfl
    have h2 : l * (v * 4294967296) = l * v * 4294967296 := by rw [Int.mul_assoc]
    have h3 : u * 4294967296 * q = u * q * 4294967296 := by rw [Int.mul_assoc, Int.mul_comm 4294967296 q, ← Int.mul_assoc]
    rw [h1, h2, h3]; omega
  rw [uw muq.1 (by omega), uw mlv.1 (by omega)]
  have J : ∀ c, (u = 0 ∨ v = 0) → c = u * q + l * v → nums_Mul.j0 (k + 1) m l q c (c / 4294967296 != 0) = some (mulV a b m) := by
    intro c hz hc
    have huv : u * v = 0 := by rcases hz with h | h <;> rw [h] <;> simp
    have hc0 : 0 ≤ c := by omega
    have hab : a * b = c * 4294967296 + l * q := by rw [e, huv, hc]; omega
    simp only [nums_Mul.j0]
    by_cases h1 : c / 4294967296 = 0
    · rw [h1, if_neg (by simp), uw (by omega) (by omega), uw mlq.1 (by omega), add_f (by omega) (by omega) (by omega) (by omega) m0 m1]
      unfold mulV addV
      rw [hab]; rfl
    · rw [if_pos (by simpa using h1)]
      unfold mulV
      rw [if_neg (by omega)]
  by_cases h1 : u = 0
  · have hc : IntKind.u64.wrap (u * q + l * v) = u * q + l * v := by
      apply uw (by omega)
      have : u * q = 0 := by rw [h1]; simp
      omega
    rw [if_pos h1, hc]
    exact J _ (Or.inl h1) rfl
  · rw [if_neg h1]
    by_cases h2 : v = 0
    · have hc : IntKind.u64.wrap (u * q + l * v) = u * q + l * v := by
        apply uw (by omega)
        have : l * v = 0 := by rw [h2]; simp
        omega
      rw [if_pos h2, hc]
      exact J _ (Or.inr h2) rfl
    · rw [if_neg h2]
      simp only [nums_Mul.j0, if_true]
      have : 1 ≤ u * v := by
        have := (mul_le (a := 1) (b := 1) (p := u) (q := v) (by omega) (by omega) (by omega) (by omega)).2
        omega
      unfold mulV
      rw [if_neg (by omega)]
theorem sub_f {a b : Int} (a0 : 0 ≤ a) (a1 : a ≤ 18446744073709551615) (b0 : 0 ≤ b) : nums_Sub.f a b = some (subV a b) := by
  unfold nums_Sub.f subV mn
  congr 1
  split
  · rw [if_neg (by omega), uw (by omega) (by omega)]
  · split <;> rw [uw (by omega) (by omega)] <;> omega
theorem sub_bd {a b : Int} (a0 : 0 ≤ a) (b0 : 0 ≤ b) : 0 ≤ subV a b ∧ subV a b ≤ a := by unfold subV; split <;> omega
theorem quo_le {a b : Int} (a0 : 0 ≤ a) (b0 : 0 ≤ b) : 0 ≤ a / b ∧ a / b ≤ a := by
  refine ⟨Int.ediv_nonneg a0 b0, ?_⟩
  exact Int.ediv_le_self b a0
theorem up_bd {a b : Int} (a0 : 0 ≤ a) (b0 : 0 ≤ b) : 0 ≤ upV a b ∧ upV a b ≤ a := by
  have h := quo_le a0 b0
  unfold upV
  split
  · omega
  · rename_i hb
    split
    · exact h
    · rename_i hm
      have e := Int.emod_add_mul_ediv a b
      have m0 := Int.emod_nonneg a hb
      refine ⟨by omega, ?_⟩
      have := (mul_le (a := 1) (p := b) (b := a / b) (q := a / b) (by omega) (by omega) h.1 (Int.le_refl _)).2
      omega
theorem up_f {a b : Int} (a0 : 0 ≤ a) (a1 : a ≤ 18446744073709551615) (b0 : 0 ≤ b) : nums_Up.f a b = some (upV a b) := by
  have u := up_bd a0 b0
  unfold nums_Up.f
  by_cases hb : b = 0
  · rw [if_pos hb]; unfold upV; rw [if_pos hb]
  · rw [if_neg hb, Int.tdiv_eq_ediv_of_nonneg a0, Int.tmod_eq_emod_of_nonneg a0]
    have h := quo_le a0 b0
    have m0 := Int.emod_nonneg a hb
    have e : a / b + mn (a % b) 1 = upV a b := by
      unfold upV mn
      rw [if_neg hb]
      split <;> split <;> omega
    rw [uw h.1 (by omega), e, uw u.1 (by omega)]
theorem live_ok : sandglasslaw02_live.f 40 = some true := by decide +kernel
theorem live_up (n : Nat) : sandglasslaw02_live.f (40 + n) = some true := by
  induction n with
  | zero => exact live_ok
  | succ n ih => exact sandglasslaw02_live.mono (40 + n) _ ih
theorem live_at {n : Nat} (h : 40 ≤ n) : sandglasslaw02_live.f n = some true := by
  have := live_up (n - 40)
  rwa [show 40 + (n - 40) = n by omega] at this
end Go.Proofs.Ytbjnkhlepmocjaa.La
