/- NumsBytes: proved of the printed functions. -/
import Derived.Test.YtbjnkhlepmocjaaStNumsBytes
import Derived.Test.YtbjnkhlepmocjaaNumsLb
namespace Go.Proofs.Ytbjnkhlepmocjaa.numsBytes
open Go.RowKit Go.Proofs.YtbjnkhlepmocjaaW.PrintWords Go.Proofs.YtbjnkhlepmocjaaW.PrintLast Go.Proofs.YtbjnkhlepmocjaaW.PrintMore Go.Proofs.Ytbjnkhlepmocjaa.Q Go.Proofs.Ytbjnkhlepmocjaa.La
set_option linter.unusedSimpArgs false
set_option linter.unusedVariables false
theorem narrow_l0 (s : ByteArray) (hs : s.size ≤ 8) (n : Nat) : ∀ (d i : Nat), s.size - i = d → i ≤ s.size → d < n → sandglassref02_Narrow.l0 n s (numL (s.data.toList.take i)) (i : Int) = some (numL s.data.toList, true) := by
  induction n with
  | zero => intro d i _ _ h; omega
  | succ n ih =>
    intro d i hd hi hn
    simp only [sandglassref02_Narrow.l0]
    by_cases h : (i : Int) < (s.size : Int)
    · have hlt : i < s.size := by omega
      have b := numL_small (l := s.data.toList.take i) (n := 7) (by simp; omega) (by omega)
      have hv : (s.data.toList.getD i 0).toNat < 256 := (s.data.toList.getD i 0).toNat_lt
      have p : (256 : Int) ^ 7 = 72057594037927936 := rfl
      rw [p] at b
      rw [if_pos h, if_pos (by omega), bt_is s i hlt, uw (x := 256 * numL (s.data.toList.take i)) (by omega) (by omega), uw (x := ((s.data.toList.getD i 0).toNat : Int)) (by omega) (by omega), uw (by omega) (by omega), wr (by omega) (by omega)]
      have e : 256 * numL (s.data.toList.take i) + ((s.data.toList.getD i 0).toNat : Int) = numL (s.data.toList.take (i + 1)) := by
        rw [take_snoc s i hlt, numL_snoc]; omega
      rw [e, show (i : Int) + 1 = ((i + 1 : Nat) : Int) by omega]
      exact ih (d - 1) (i + 1) (by omega) (by omega) (by omega)
    · rw [if_neg h, List.take_of_length_le (by simp; omega)]
theorem narrow_r {n : Nat} (hn : 20 ≤ n) (s : ByteArray) : sandglassref02_Narrow.f n s = some (narV s) := by
  unfold sandglassref02_Narrow.f narV
  by_cases h : s.size > 8
  · rw [if_pos (by omega), if_pos h]
  · rw [if_neg (by omega), if_neg h]
    have := narrow_l0 s (by omega) n s.size 0 (by omega) (by omega) (by omega)
    simpa [numL] using this
theorem number_r {n : Nat} (hn : 30 ≤ n) (s : ByteArray) (hs : s.size ≤ 1000000) (a w : Int) : sandglassref02_Number.f n s a w = some (numAt s a w) := by
  obtain ⟨n, rfl⟩ : ∃ m, n = m + 1 := ⟨n - 1, by omega⟩
  have T : sandglassref02_Number.j0 (n + 1) s a w true = some (0, 0, 1) := by simp [sandglassref02_Number.j0]
  unfold sandglassref02_Number.f
  by_cases h1 : w < 0
  · rw [if_pos h1, T, numAt_arg (by omega)]
  rw [if_neg h1]
  by_cases h2 : w > 8
  · rw [if_pos h2, T, numAt_arg (by omega)]
  rw [if_neg h2]
  by_cases h3 : a < 0
  · rw [if_pos h3, T, numAt_arg (by omega)]
  rw [if_neg h3]
  by_cases h4 : a > (s.size : Int)
  · rw [decide_eq_true h4, T, numAt_arg (by omega)]
  rw [decide_eq_false h4]
  simp only [sandglassref02_Number.j0, Bool.false_eq_true, if_false]
  rw [wr (x := (s.size : Int) - a) (by omega) (by omega)]
  by_cases h5 : w > (s.size : Int) - a
  · rw [if_pos h5, numAt_cut (by omega) (by omega)]
  · rw [if_neg h5, numAt_ok (by omega) (by omega), wr (x := a + w) (by omega) (by omega), if_pos (by omega), if_pos (by omega), if_pos (by omega), narrow_r (by omega), Option.bind_some]
    obtain ⟨v, rfl⟩ : ∃ v : Nat, a = v := ⟨a.toNat, by omega⟩
    obtain ⟨u, rfl⟩ : ∃ u : Nat, w = u := ⟨w.toNat, by omega⟩
    have e : ((v : Int) + (u : Int)).toNat = v + u := by omega
    unfold narV
    simp only [Int.toNat_natCast, e]
    rw [if_neg (by rw [ByteArray.size_extract]; omega)]
    have e2 : (s.extract v (v + u)).data.toList = (s.data.toList.drop v).take u := by simp
    rw [e2]
theorem wide_r0 (x : Int) (hx : 0 ≤ x) (hx2 : x ≤ 18446744073709551615) (w : Nat) (hw : w ≤ 8) (n : Nat) : ∀ (i : Nat) (xs : List Int), xs.length = w → (∀ j, i ≤ j → j < w → xs[j]? = some (x / 256 ^ (w - 1 - j) % 256)) → i ≤ w → i < n →
    sandglassref02_Wide.l0 n (x / 256 ^ (w - i)) xs ((i : Int) - 1) = some (strOfNums (wideL x w)) := by
  induction n with
  | zero => intro i xs _ _ _ h; omega
  | succ n ih =>
    intro i xs hl hj hi hn
    simp only [sandglassref02_Wide.l0]
    by_cases h : (i : Int) - 1 ≥ 0
    · obtain ⟨m, rfl⟩ : ∃ m, i = m + 1 := ⟨i - 1, by omega⟩
      have hp : (0 : Int) < 256 ^ (w - (m + 1)) := Int.pow_pos (by omega)
      have q := quo_le hx (Int.le_of_lt hp)
      have q2 := quo_le (b := 256) q.1 (by omega)
      rw [if_pos h, if_pos h, if_pos (by omega), Int.tdiv_eq_ediv_of_nonneg q.1, Int.tmod_eq_emod_of_nonneg q.1, uw q2.1 (by omega), wr (by omega) (by omega), Int.emod_emod]
      have e1 : x / 256 ^ (w - (m + 1)) / 256 = x / 256 ^ (w - m) := by
        rw [Int.ediv_ediv_of_nonneg (Int.le_of_lt hp), ← Int.pow_succ, show (w - (m + 1)).succ = w - m by omega]
      have e2 : ((m + 1 : Nat) : Int) - 1 = (m : Int) := by omega
      rw [e1, e2, show ((m : Int)).toNat = m by omega]
      refine ih m _ (by simpa using hl) ?_ (by omega) (by omega)
      intro j h1 h2
      rw [List.getElem?_set]
      by_cases h3 : m = j
      · subst h3
        rw [if_pos rfl, if_pos (by omega), show w - 1 - m = w - (m + 1) by omega]
      · rw [if_neg h3]
        exact hj j (by omega) h2
    · rw [if_neg h]
      rw [wideL_eq hl (fun j hj' => hj j (by omega) hj')]
theorem wide_r {n : Nat} (hn : 20 ≤ n) (x w : Int) (hx : 0 ≤ x) (hx2 : x ≤ 18446744073709551615) : sandglassref02_Wide.f n x w = some (wideV x w) := by
  obtain ⟨n, rfl⟩ : ∃ m, n = m + 1 := ⟨n - 1, by omega⟩
  unfold sandglassref02_Wide.f wideV
  by_cases h : w < 0
  · rw [if_pos h, if_pos (Or.inl h)]; simp [sandglassref02_Wide.j0]
  · rw [if_neg h]
    by_cases h2 : w > 8
    · rw [decide_eq_true h2, if_pos (Or.inr h2)]; simp [sandglassref02_Wide.j0]
    · rw [decide_eq_false h2, if_neg (by omega)]
      obtain ⟨v, rfl⟩ : ∃ v : Nat, w = v := ⟨w.toNat, by omega⟩
      simp only [sandglassref02_Wide.j0, Bool.false_eq_true, if_false, Int.toNat_natCast]
      rw [if_pos (by omega), if_pos (by omega), wr (by omega) (by omega)]
      have := wide_r0 x hx hx2 v (by omega) n v (List.replicate v 0) (by simp) (by intro j h1 h2; omega) (by omega) (by omega)
      simpa using this
theorem pure : Pure := by
  intro x s a w wx hs wa ww
  have hx := u64_is wx
  refine ⟨60, ?_⟩
  unfold sandglasslaw02_NumsBytes.f
  by_cases h : (s.size : Int) > 60
  · rw [if_pos h]; simp only [live_at (show 40 ≤ 60 by omega), Option.bind_some]
  · rw [if_neg h]
    simp only [narrow_f, narrow_r (show 20 ≤ 60 by omega), number_f 0 s a w (by omega), number_r (show 30 ≤ 60 by omega) s (by omega), wide_f (show 20 ≤ 60 by omega), wide_r (show 20 ≤ 60 by omega) x w hx.1 hx.2, Option.bind_some, if_true, BEq.rfl, live_at (show 40 ≤ 60 by omega)]
end Go.Proofs.Ytbjnkhlepmocjaa.numsBytes
