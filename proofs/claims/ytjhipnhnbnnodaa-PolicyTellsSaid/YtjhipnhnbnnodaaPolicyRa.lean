/- The references of layer 9, told in closed form. -/
import Derived.Test.YtjhipnhnbnnodaaPolicyLa
import Derived.Test.YtjhipnhnbnnodaaQ8
import Derived.Test.YtjhipnhnbnnodaaQ6
import Derived.Test.YtjhipnhnbnnodaaQ7
import Derived.Test.YtjhipnhnbnnodaaQ12
import Derived.Test.YtjhipnhnbnnodaaQ10
namespace Go.Proofs.Ytjhipnhnbnnodaa.La
open Go.RowKit Go.Proofs.YtjhipnhnbnnodaaW.PrintWords Go.Proofs.YtjhipnhnbnnodaaW.PrintLast Go.Proofs.YtjhipnhnbnnodaaW.PrintMore Go.Proofs.Ytjhipnhnbnnodaa.Q
set_option linter.unusedSimpArgs false
set_option linter.unusedVariables false
theorem refCheck (k : Nat) (a b c d : Int) : sandglassref09_Check.f (k + 3) a b c d = some (if polOk a b c d = true then 0 else 1) := by
  unfold sandglassref09_Check.f polOk withinB
  by_cases h1 : a < 1
  · rw [if_pos h1]; simp [sandglassref09_Check.j0, show ¬ 1 ≤ a by omega]
  rw [if_neg h1]
  by_cases h2 : a > 4
  · rw [if_pos h2]; simp [sandglassref09_Check.j0, show ¬ a ≤ 4 by omega]
  rw [if_neg h2]
  by_cases h3 : b < 1
  · rw [if_pos h3]; simp [sandglassref09_Check.j0, show ¬ 1 ≤ b by omega]
  rw [if_neg h3]
  by_cases h4 : b > 1048576
  · rw [if_pos h4]; simp [sandglassref09_Check.j0, show ¬ b ≤ 1048576 by omega]
  rw [if_neg h4]
  by_cases h5 : c < 1
  · rw [if_pos h5]; simp [sandglassref09_Check.j0, show ¬ 1 ≤ c by omega]
  rw [if_neg h5]
  have e : ∀ (p : Int) (q : Int), (¬ p < q) → decide (q ≤ p) = true := fun p q h => by simp; omega
  have e' : ∀ (p : Int) (q : Int), (¬ p > q) → decide (p ≤ q) = true := fun p q h => by simp; omega
  by_cases h6 : c > 1048576
  · simp [sandglassref09_Check.j0, h6, show ¬ c ≤ 1048576 by omega]
  have h6' : decide (c > 1048576) = false := by simp; omega
  rw [h6', e _ _ h1, e' _ _ h2, e _ _ h3, e' _ _ h4, e _ _ h5, e' _ _ h6]
  simp only [sandglassref09_Check.j0, Bool.false_eq_true, if_false, Bool.and_self, Bool.true_and]
  by_cases h7 : a = 4
  · subst h7
    simp only [if_true, sandglassref09_Check.j1, show ¬ ((4 : Int) = 3) by omega, if_false, exactB]
    by_cases h8 : b > 16
    · simp [h8, show ¬ b ≤ 16 by omega]
    · by_cases h9 : d = 0 <;> simp [h8, h9, show b ≤ 16 by omega]
  · rw [if_neg h7]
    simp only [sandglassref09_Check.j1, Bool.false_eq_true, if_false]
    by_cases h8 : a = 3
    · rw [if_pos h8, if_pos h8]
      unfold ringB withinB
      by_cases h9 : d < 1
      · simp [h9, show ¬ 1 ≤ d by omega, sandglassref09_Check.j2]
      · by_cases h10 : d > 16
        · simp [h9, h10, show ¬ d ≤ 16 by omega, sandglassref09_Check.j2]
        · by_cases h11 : Int.tmod c d = 0 <;> simp [h9, h10, h11, show 1 ≤ d by omega, show d ≤ 16 by omega, show ¬ d = 0 by omega, sandglassref09_Check.j2]
    · rw [if_neg h8, if_neg h8, if_neg h7]
      by_cases h9 : d = 0 <;> simp [h9]
theorem wide_r0 (x : Int) (hx : 0 ≤ x) (hx2 : x ≤ 18446744073709551615) (w : Nat) (hw : w ≤ 8) (n : Nat) : ∀ (i : Nat) (xs : List Int), xs.length = w → (∀ j, i ≤ j → j < w → xs[j]? = some (x / 256 ^ (w - 1 - j) % 256)) → i ≤ w → i < n →
    sandglassref02_Wide.l0 n (x / 256 ^ (w - i)) xs ((i : Int) - 1) = some (strOfNums (wideL x w)) := by
  induction n with
  | zero => intro i xs _ _ _ h; omega
  | succ n ih =>
    intro i xs hl hj hi hn
    simp only [sandglassref02_Wide.l0]
    by_cases h : (i : Int) - 1 ≥ 0
    · obtain ⟨m, rfl⟩ : ∃ m, i = m + 1 := ⟨i - 1, by omega⟩
      have hp : (0 : Int) < 256 ^ (w - (m + 1)) := Int.pow_pos (by omega)
      have q := quo_le hx (Int.le_of_lt hp)
      have q2 := quo_le (b := 256) q.1 (by omega)
      rw [if_pos h, if_pos h, if_pos (by omega), Int.tdiv_eq_ediv_of_nonneg q.1, Int.tmod_eq_emod_of_nonneg q.1, uw q2.1 (by omega), wr (by omega) (by omega), Int.emod_emod]
      have e1 : x / 256 ^ (w - (m + 1)) / 256 = x / 256 ^ (w - m) := by
        rw [Int.ediv_ediv_of_nonneg (Int.le_of_lt hp), ← Int.pow_succ, show (w - (m + 1)).succ = w - m by omega]
      have e2 : ((m + 1 : Nat) : Int) - 1 = (m : Int) := by omega
      rw [e1, e2, show ((m : Int)).toNat = m by omega]
      refine ih m _ (by simpa using hl) ?_ (by omega) (by omega)
      intro j h1 h2
      rw [List.getElem?_set]
      by_cases h3 : m = j
      · subst h3
        rw [if_pos rfl, if_pos (by omega), show w - 1 - m = w - (m + 1) by omega]
      · rw [if_neg h3]
        exact hj j (by omega) h2
    · rw [if_neg h]
      rw [wideL_eq hl (fun j hj' => hj j (by omega) hj')]
theorem wide_r {n : Nat} (hn : 20 ≤ n) (x w : Int) (hx : 0 ≤ x) (hx2 : x ≤ 18446744073709551615) : sandglassref02_Wide.f n x w = some (wideV x w) := by
  obtain ⟨n, rfl⟩ : ∃ m, n = m + 1 := ⟨n - 1, by omega⟩
  unfold sandglassref02_Wide.f wideV
  by_cases h : w < 0
  · rw [if_pos h, if_pos (Or.inl h)]; simp [sandglassref02_Wide.j0]
  · rw [if_neg h]
    by_cases h2 : w > 8
    · rw [decide_eq_true h2, if_pos (Or.inr h2)]; simp [sandglassref02_Wide.j0]
    · rw [decide_eq_false h2, if_neg (by omega)]
      obtain ⟨v, rfl⟩ : ∃ v : Nat, w = v := ⟨w.toNat, by omega⟩
      simp only [sandglassref02_Wide.j0, Bool.false_eq_true, if_false, Int.toNat_natCast]
      rw [if_pos (by omega), if_pos (by omega), wr (by omega) (by omega)]
      have := wide_r0 x hx hx2 v (by omega) n v (List.replicate v 0) (by simp) (by intro j h1 h2; omega) (by omega) (by omega)
      simpa using this
end Go.Proofs.Ytjhipnhnbnnodaa.La
