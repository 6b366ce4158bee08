-- Laid by wip/tools/hprint.py, a program of this repo, over the kit's print; not a text of print.sh.
import Derived.Test.YteljllpkjhkanaaQ0
import Derived.Test.YteljllpkjhkanaaQ1
namespace Go.Proofs.Yteljllpkjhkanaa.Q
open Go.RowKit Go.Proofs.Yteljllpkjhkanaa.Zip Go.Proofs.YteljllpkjhkanaaW.PrintWords Go.Proofs.YteljllpkjhkanaaW.PrintLast Go.Proofs.YteljllpkjhkanaaW.PrintMore
attribute [local go_sem] max2_int min2_int max_two min_two max_three min_three max_four min_four   -- for this text's walks alone
set_option linter.unusedVariables false
set_option linter.unusedSimpArgs false

/-! ### nums_Number: given by hand -/
/-- The number at a place, where the place is behind it, an error. -/
def numAt (s : ByteArray) (a n : Int) : Int × Int × Int := if n < 0 ∨ 8 < n ∨ a < 0 ∨ (s.size : Int) < a then (0, 0, 1) else if (s.size : Int) - a < n then (0, 0, 2) else (numL ((s.data.toList.drop a.toNat).take n.toNat), a + n, 0)
def nums_Number.f (a0 : ByteArray) (a1 : Int) (a2 : Int) : Option (Int × Int × Int) := if a0.size ≤ 9223372036854775807 then some (numAt a0 a1 a2) else none
theorem ret_nba {a b c d e f : Int} (h : (a, b, c) = (d, e, f)) : Ending.returned (.tuple #[.int .u64 a, .int .i64 b, .int .i64 c]) = .returned (.tuple #[.int .u64 d, .int .i64 e, .int .i64 f]) := by
  simp only [Prod.mk.injEq] at h
  obtain ⟨rfl, rfl, rfl⟩ := h; rfl
set_option maxHeartbeats 4000000 in
theorem number_arg (s : ByteArray) (a n : Int) (w : World) (hs : s.size ≤ 9223372036854775807) (h : n < 0 ∨ 8 < n ∨ a < 0 ∨ (s.size : Int) < a) : Calls Try.prog 17 #[.string s, .int .i64 a, .int .i64 n] w fun e w' => e = .returned (.tuple #[.int .u64 0, .int .i64 0, .int .i64 1]) ∧ Below w.heap.size w w' := by
  by_cases h1 : n < 0
  · clear h
    go_enter Try.func17, Try.ntmps17
    go_wp2
    go_ret3
    exact ⟨rfl, Below.refl _ _⟩
  by_cases h2 : 8 < n
  · clear h
    go_enter Try.func17, Try.ntmps17
    go_wp2
    go_ret3
    exact ⟨rfl, Below.refl _ _⟩
  by_cases h3 : a < 0
  · clear h
    go_enter Try.func17, Try.ntmps17
    go_wp2
    go_ret3
    exact ⟨rfl, Below.refl _ _⟩
  have h4 : (s.size : Int) < a := by omega
  clear h
  go_enter Try.func17, Try.ntmps17
  go_wp2
  go_ret3
  exact ⟨rfl, Below.refl _ _⟩
set_option maxHeartbeats 4000000 in
theorem number_cut (s : ByteArray) (a n : Nat) (w : World) (hs : s.size ≤ 9223372036854775807) (h1 : (n : Int) ≤ 8) (h2 : (a : Int) ≤ s.size) (h : (s.size : Int) - a < n) : Calls Try.prog 17 #[.string s, .int .i64 a, .int .i64 n] w fun e w' => e = .returned (.tuple #[.int .u64 0, .int .i64 0, .int .i64 2]) ∧ Below w.heap.size w w' := by
  have hx : s.size - a < n := by omega
  go_enter Try.func17, Try.ntmps17
  go_wp2
  all_goals
    go_ret3
    exact ⟨rfl, Below.refl _ _⟩
set_option maxHeartbeats 4000000 in
theorem number_ok (s : ByteArray) (a n : Nat) (w : World) (hs : s.size ≤ 9223372036854775807) (h1 : (n : Int) ≤ 8) (h2 : (a : Int) ≤ s.size) (h : n ≤ s.size - a) : Calls Try.prog 17 #[.string s, .int .i64 a, .int .i64 n] w fun e w' => e = .returned (.tuple #[.int .u64 (numL ((s.data.toList.drop a).take n)), .int .i64 (a + n), .int .i64 0]) ∧ Below w.heap.size w w' := by
  have hx : ¬ s.size - a < n := by omega
  have hq : (a : Int) + n ≤ 9223372036854775807 := by omega
  have hn : Aside0 (nums_Narrow.f ((s.extract a s.size).extract 0 n) = some (numL ((s.data.toList.drop a).take n), true)) := ⟨by
    have e : ((s.extract a s.size).extract 0 n).data.toList = (s.data.toList.drop a).take n := by simp; omega
    unfold nums_Narrow.f
    rw [if_neg (by simp [ByteArray.size_extract]; omega), e]⟩
  go_enter Try.func17, Try.ntmps17
  go_wp2_with (first | (go_at_call 19; refine (nums_Narrow.calls _ _ _ _ hn.out).mono ?_; rintro e w' ⟨rfl, hb⟩))
  all_goals
    go_ret3
    exact ⟨rfl, hb⟩
theorem nums_Number.calls (a0 : ByteArray) (a1 : Int) (a2 : Int) (r1 : Int) (r2 : Int) (r3 : Int) (w : World) (h : nums_Number.f a0 a1 a2 = some (r1, r2, r3)) :
    Calls Try.prog 17 #[.string a0, .int .i64 a1, .int .i64 a2] w fun e w' => e = .returned (.tuple #[.int .u64 r1, .int .i64 r2, .int .i64 r3]) ∧ Below w.heap.size w w' := by
  unfold nums_Number.f at h
  by_cases hs : a0.size ≤ 9223372036854775807
  · rw [if_pos hs] at h
    have h1 := Option.some.inj h
    unfold numAt at h1
    by_cases c1 : a2 < 0 ∨ 8 < a2 ∨ a1 < 0 ∨ (a0.size : Int) < a1
    · rw [if_pos c1] at h1
      simp only [Prod.mk.injEq] at h1
      obtain ⟨rfl, rfl, rfl⟩ := h1
      exact number_arg a0 a1 a2 w hs c1
    · rw [if_neg c1] at h1
      obtain ⟨a, rfl⟩ : ∃ a : Nat, a1 = a := ⟨a1.toNat, by omega⟩
      obtain ⟨n, rfl⟩ : ∃ n : Nat, a2 = n := ⟨a2.toNat, by omega⟩
      by_cases c2 : (a0.size : Int) - a < n
      · rw [if_pos c2] at h1
        simp only [Prod.mk.injEq] at h1
        obtain ⟨rfl, rfl, rfl⟩ := h1
        exact number_cut a0 a n w hs (by omega) (by omega) c2
      · rw [if_neg c2] at h1
        simp only [Prod.mk.injEq, Int.toNat_natCast] at h1
        obtain ⟨rfl, rfl, rfl⟩ := h1
        exact number_ok a0 a n w hs (by omega) (by omega) (by omega)
  · rw [if_neg hs] at h; cases h

end Go.Proofs.Yteljllpkjhkanaa.Q
