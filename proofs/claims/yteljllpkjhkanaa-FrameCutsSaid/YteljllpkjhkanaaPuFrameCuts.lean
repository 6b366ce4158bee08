/- FrameCuts: proved of the functions. -/
import Derived.Test.YteljllpkjhkanaaStFrameCuts
import Derived.Test.YteljllpkjhkanaaFrameLa
namespace Go.Proofs.Yteljllpkjhkanaa.frameCuts
open Go.RowKit Go.Proofs.YteljllpkjhkanaaW.PrintWords Go.Proofs.YteljllpkjhkanaaW.PrintLast Go.Proofs.YteljllpkjhkanaaW.PrintMore Go.Proofs.Yteljllpkjhkanaa.Q Go.Proofs.Yteljllpkjhkanaa.La
set_option linter.unusedSimpArgs false
set_option linter.unusedVariables false
theorem F_nil : F ByteArray.empty 0 false = (ByteArray.empty, 0, false, []) := F_off (st_short (by decide))
/-- A prefix and what follows it. -/
theorem join_at (s : ByteArray) {a b : Nat} (h : a ≤ b) (hb : b ≤ s.size) : F (s.extract 0 b) 0 false = ((F ((F (s.extract 0 a) 0 false).1 ++ s.extract a b) (F (s.extract 0 a) 0 false).2.1 (F (s.extract 0 a) 0 false).2.2.1).1, (F ((F (s.extract 0 a) 0 false).1 ++ s.extract a b) (F (s.extract 0 a) 0 false).2.1 (F (s.extract 0 a) 0 false).2.2.1).2.1, (F ((F (s.extract 0 a) 0 false).1 ++ s.extract a b) (F (s.extract 0 a) 0 false).2.1 (F (s.extract 0 a) 0 false).2.2.1).2.2.1, (F (s.extract 0 a) 0 false).2.2.2 ++ (F ((F (s.extract 0 a) 0 false).1 ++ s.extract a b) (F (s.extract 0 a) 0 false).2.1 (F (s.extract 0 a) 0 false).2.2.1).2.2.2) := by
  have J := F_join (me (s.extract 0 a) false + 1) (s.extract 0 a) 0 false (Nat.lt_succ_self _) (Int.le_refl _) (s.extract a b)
  rw [ex5 h hb] at J
  exact J
theorem run0 (s : ByteArray) (cuts : List Int) (hs : s.size ≤ 4000) (h40 : cuts.length ≤ 40) : ∀ (n j a : Nat), a ≤ s.size → j ≤ cuts.length → cuts.length - j < n → ∀ k, n + 20000 ≤ k → sandglasslaw20_FrameCuts.l0 k s cuts (F s 0 false).2.2.2 (F s 0 false).1 (F (s.extract 0 a) 0 false).2.2.2 (F (s.extract 0 a) 0 false).1 (F (s.extract 0 a) 0 false).2.1 (F (s.extract 0 a) 0 false).2.2.1 a j = some true
  | 0, _, _, _, _, h => absurd h (Nat.not_lt_zero _)
  | n + 1, j, a, ha, hj, hn => by
    intro k hk
    obtain ⟨k, rfl⟩ : ∃ q, k = q + 1 := ⟨k - 1, by omega⟩
    rw [sandglasslaw20_FrameCuts.l0]
    obtain ⟨s1, s2, s3, s4⟩ := F_sk (me (s.extract 0 a) false + 1) (s.extract 0 a) 0 false (Nat.lt_succ_self _) (Int.le_refl _)
    rw [szE _ _ _ ha] at s2
    by_cases hlt : j < cuts.length
    · rw [if_pos hlt]
      by_cases hc : (a : Int) < rd cuts (j : Int) ∧ rd cuts (j : Int) ≤ (s.size : Int)
      · rw [if_pos hc]
        obtain ⟨b, hb⟩ : ∃ b : Nat, rd cuts (j : Int) = (b : Int) := ⟨(rd cuts (j : Int)).toNat, by omega⟩
        rw [hb] at hc ⊢
        rw [Int.toNat_natCast]
        have hz := szE s a b (by omega)
        rw [feed_at s1 (by omega) (by omega), Option.bind_some]
        have J := join_at s (show a ≤ b by omega) (by omega)
        obtain ⟨t1, t2, t3, t4⟩ := F_sk (me (s.extract 0 b) false + 1) (s.extract 0 b) 0 false (Nat.lt_succ_self _) (Int.le_refl _)
        rw [szE _ _ _ (show b ≤ s.size by omega)] at t2
        have R := run0 s cuts hs h40 n (j + 1) b (by omega) (by omega) (by omega) k (by omega)
        have hl : (F (s.extract 0 a) 0 false).2.2.2.length + (F ((F (s.extract 0 a) 0 false).1 ++ s.extract a b) (F (s.extract 0 a) 0 false).2.1 (F (s.extract 0 a) 0 false).2.2.1).2.2.2.length = (F (s.extract 0 b) 0 false).2.2.2.length := by rw [J, List.length_append]
        rw [if_pos (by rw [hl]; omega)]
        rw [J] at R
        exact R
      · rw [if_neg hc]
        exact run0 s cuts hs h40 n (j + 1) a ha (by omega) (by omega) k (by omega)
    · rw [if_neg hlt]
      unfold sandglasslaw20_FrameCuts.e
      have hz := szE s a s.size (Nat.le_refl _)
      rw [feed_at s1 (by omega) (by omega), Option.bind_some]
      have J := join_at s ha (Nat.le_refl _)
      rw [ex6] at J
      obtain ⟨t1, t2, t3, t4⟩ := F_sk (me s false + 1) s 0 false (Nat.lt_succ_self _) (Int.le_refl _)
      have J4 : (F s 0 false).2.2.2 = (F (s.extract 0 a) 0 false).2.2.2 ++ (F ((F (s.extract 0 a) 0 false).1 ++ s.extract a s.size) (F (s.extract 0 a) 0 false).2.1 (F (s.extract 0 a) 0 false).2.2.1).2.2.2 := by rw [J]
      have J1 : (F s 0 false).1 = (F ((F (s.extract 0 a) 0 false).1 ++ s.extract a s.size) (F (s.extract 0 a) 0 false).2.1 (F (s.extract 0 a) 0 false).2.2.1).1 := by rw [J]
      rw [if_pos (by rw [← List.length_append, ← J4]; omega), if_pos ⟨by rw [J1], by rw [J4]⟩]
theorem pure : Pure := by
  intro s l _ _
  refine ⟨30000, ?_⟩
  unfold sandglasslaw20_FrameCuts.f
  by_cases h : s.size > 4000 ∨ l.length > 40
  · rw [if_pos h]
  · rw [if_neg h, feed_at (Int.le_refl _) (by show 0 + s.size ≤ _; omega) (by show 2 * (0 + s.size) + 3 ≤ _; omega), Option.bind_some, emA]
    have := run0 s l (by omega) (by omega) (l.length + 1) 0 0 (Nat.zero_le _) (Nat.zero_le _) (by omega) 30000 (by omega)
    rw [ex0, F_nil] at this
    exact this
end Go.Proofs.Yteljllpkjhkanaa.frameCuts
