/- PolicyReads: proved of the printed functions. -/
import Derived.Test.YtjhipnhnbnnodaaStPolicyReads
import Derived.Test.YtjhipnhnbnnodaaPolicyLa
import Derived.Test.YtjhipnhnbnnodaaQ20
import Derived.Test.YtjhipnhnbnnodaaQ6
namespace Go.Proofs.Ytjhipnhnbnnodaa.policyReads
open Go.RowKit Go.Proofs.YtjhipnhnbnnodaaW.PrintWords Go.Proofs.YtjhipnhnbnnodaaW.PrintLast Go.Proofs.YtjhipnhnbnnodaaW.PrintMore Go.Proofs.Ytjhipnhnbnnodaa.Q Go.Proofs.Ytjhipnhnbnnodaa.La
set_option linter.unusedSimpArgs false
set_option linter.unusedVariables false
theorem refCheck (k : Nat) (a b c d : Int) : sandglassref09_Check.f (k + 3) a b c d = some (if polOk a b c d = true then 0 else 1) := by
  unfold sandglassref09_Check.f polOk withinB
  by_cases h1 : a < 1
  · rw [if_pos h1]; simp [sandglassref09_Check.j0, show ¬ 1 ≤ a by omega]
  rw [if_neg h1]
  by_cases h2 : a > 4
  · rw [if_pos h2]; simp [sandglassref09_Check.j0, show ¬ a ≤ 4 by omega]
  rw [if_neg h2]
  by_cases h3 : b < 1
  · rw [if_pos h3]; simp [sandglassref09_Check.j0, show ¬ 1 ≤ b by omega]
  rw [if_neg h3]
  by_cases h4 : b > 1048576
  · rw [if_pos h4]; simp [sandglassref09_Check.j0, show ¬ b ≤ 1048576 by omega]
  rw [if_neg h4]
  by_cases h5 : c < 1
  · rw [if_pos h5]; simp [sandglassref09_Check.j0, show ¬ 1 ≤ c by omega]
  rw [if_neg h5]
  have e : ∀ (p : Int) (q : Int), (¬ p < q) → decide (q ≤ p) = true := fun p q h => by simp; omega
  have e' : ∀ (p : Int) (q : Int), (¬ p > q) → decide (p ≤ q) = true := fun p q h => by simp; omega
  by_cases h6 : c > 1048576
  · simp [sandglassref09_Check.j0, h6, show ¬ c ≤ 1048576 by omega]
  have h6' : decide (c > 1048576) = false := by simp; omega
  rw [h6', e _ _ h1, e' _ _ h2, e _ _ h3, e' _ _ h4, e _ _ h5, e' _ _ h6]
  simp only [sandglassref09_Check.j0, Bool.false_eq_true, if_false, Bool.and_self, Bool.true_and]
  by_cases h7 : a = 4
  · subst h7
    simp only [if_true, sandglassref09_Check.j1, show ¬ ((4 : Int) = 3) by omega, if_false, exactB]
    by_cases h8 : b > 16
    · simp [h8, show ¬ b ≤ 16 by omega]
    · by_cases h9 : d = 0 <;> simp [h8, h9, show b ≤ 16 by omega]
  · rw [if_neg h7]
    simp only [sandglassref09_Check.j1, Bool.false_eq_true, if_false]
    by_cases h8 : a = 3
    · rw [if_pos h8, if_pos h8]
      unfold ringB withinB
      by_cases h9 : d < 1
      · simp [h9, show ¬ 1 ≤ d by omega, sandglassref09_Check.j2]
      · by_cases h10 : d > 16
        · simp [h9, h10, show ¬ d ≤ 16 by omega, sandglassref09_Check.j2]
        · by_cases h11 : Int.tmod c d = 0 <;> simp [h9, h10, h11, show 1 ≤ d by omega, show d ≤ 16 by omega, show ¬ d = 0 by omega, sandglassref09_Check.j2]
    · rw [if_neg h8, if_neg h8, if_neg h7]
      by_cases h9 : d = 0 <;> simp [h9]
def narV (s : ByteArray) : Int × Bool := if s.size > 8 then (0, false) else (numL s.data.toList, true)
theorem narrow_l0 (s : ByteArray) (hs : s.size ≤ 8) (n : Nat) : ∀ (d i : Nat), s.size - i = d → i ≤ s.size → d < n → sandglassref02_Narrow.l0 n s (numL (s.data.toList.take i)) (i : Int) = some (numL s.data.toList, true) := by
  induction n with
  | zero => intro d i _ _ h; omega
  | succ n ih =>
    intro d i hd hi hn
    simp only [sandglassref02_Narrow.l0]
    by_cases h : (i : Int) < (s.size : Int)
    · have hlt : i < s.size := by omega
      have b := numL_small (l := s.data.toList.take i) (n := 7) (by simp; omega) (by omega)
      have hv : (s.data.toList.getD i 0).toNat < 256 := (s.data.toList.getD i 0).toNat_lt
      have p : (256 : Int) ^ 7 = 72057594037927936 := rfl
      rw [p] at b
      rw [if_pos h, if_pos (by omega), bt_is s i hlt, uw (x := 256 * numL (s.data.toList.take i)) (by omega) (by omega), uw (x := ((s.data.toList.getD i 0).toNat : Int)) (by omega) (by omega), uw (by omega) (by omega), wr (by omega) (by omega)]
      have e : 256 * numL (s.data.toList.take i) + ((s.data.toList.getD i 0).toNat : Int) = numL (s.data.toList.take (i + 1)) := by
        rw [take_snoc s i hlt, numL_snoc]; omega
      rw [e, show (i : Int) + 1 = ((i + 1 : Nat) : Int) by omega]
      exact ih (d - 1) (i + 1) (by omega) (by omega) (by omega)
    · rw [if_neg h, List.take_of_length_le (by simp; omega)]
theorem narrow_r {n : Nat} (hn : 20 ≤ n) (s : ByteArray) : sandglassref02_Narrow.f n s = some (narV s) := by
  unfold sandglassref02_Narrow.f narV
  by_cases h : s.size > 8
  · rw [if_pos (by omega), if_pos h]
  · rw [if_neg (by omega), if_neg h]
    have := narrow_l0 s (by omega) n s.size 0 (by omega) (by omega) (by omega)
    simpa [numL] using this
theorem narrow_at {n : Nat} (hn : 20 ≤ n) (s : ByteArray) (a c : Nat) (h : a + c ≤ s.size) (hc : c ≤ 8) : sandglassref02_Narrow.f n (s.extract a (a + c)) = some (fld s a c, true) := by
  rw [narrow_r hn]
  unfold narV fld
  rw [if_neg (by rw [ByteArray.size_extract]; omega)]
  have e2 : (s.extract a (a + c)).data.toList = (s.data.toList.drop a).take c := by simp
  rw [e2]
theorem bt_fld (s : ByteArray) (a : Nat) (h : a < s.size) : bt s (a : Int) = fld s a 1 := by
  have hl : a < s.data.toList.length := by
    have : s.data.toList.length = s.size := by simp
    omega
  rw [bt_is s a h]
  unfold fld
  rw [drop_one _ _ hl]
  simp [numL]
theorem dec_r {n : Nat} (hn : 20 ≤ n) (s : ByteArray) : sandglassref09_Decode.f n s = some (decV s) := by
  obtain ⟨n, rfl⟩ : ∃ m, n = m + 3 := ⟨n - 3, by omega⟩
  unfold sandglassref09_Decode.f decV
  by_cases h1 : s.size < 10
  · rw [if_pos (by omega), if_pos h1]
  rw [if_neg (by omega), if_neg h1]
  by_cases h2 : (s.size : Int) > 10
  · rw [if_pos h2, if_neg (by omega)]
  have hz : s.size = 10 := by omega
  have b0 := fld_bd s 0 1 (by omega)
  have b1 := fld_bd s 1 4 (by omega)
  have b2 := fld_bd s 5 4 (by omega)
  have b3 := fld_bd s 9 1 (by omega)
  have n1 := narrow_at hn s 1 4 (by omega) (by omega)
  have n2 := narrow_at hn s 5 4 (by omega) (by omega)
  have t0 := bt_fld s 0 (by omega)
  have t9 := bt_fld s 9 (by omega)
  simp only [Int.natCast_zero, show ((9 : Nat) : Int) = 9 from rfl] at t0 t9
  rw [if_neg h2, if_pos (by omega), if_pos (by omega), n1, Option.bind_some, if_pos (by omega), if_pos (by omega), n2, Option.bind_some, if_pos (by omega), if_pos (by omega), t0, t9]
  simp only [wr (show -9223372036854775808 ≤ fld s 0 1 by omega) (by omega), wr (show -9223372036854775808 ≤ fld s 1 4 by omega) (by omega), wr (show -9223372036854775808 ≤ fld s 5 4 by omega) (by omega), wr (show -9223372036854775808 ≤ fld s 9 1 by omega) (by omega), refCheck n, Option.bind_some]
  cases hp : polOk (fld s 0 1) (fld s 1 4) (fld s 5 4) (fld s 9 1)
  · simp
  · simp [hz]
theorem pure : Pure := by
  intro s hs
  refine ⟨60, ?_⟩
  unfold sandglasslaw09_PolicyReads.f
  by_cases h : (s.size : Int) > 100
  · rw [if_pos h]; simp only [live_at (show 40 ≤ 60 by omega), Option.bind_some]
  · rw [if_neg h]
    simp only [dec_f s (by omega), dec_r (show 20 ≤ 60 by omega), Option.bind_some, BEq.rfl, Bool.and_self, if_true, live_at (show 40 ≤ 60 by omega)]
end Go.Proofs.Ytjhipnhnbnnodaa.policyReads
