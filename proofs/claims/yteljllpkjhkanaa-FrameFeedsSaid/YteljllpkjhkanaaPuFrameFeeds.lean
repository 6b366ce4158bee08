/- FrameFeeds: proved of the functions. -/
import Derived.Test.YteljllpkjhkanaaStFrameFeeds
import Derived.Test.YteljllpkjhkanaaFrameLb
namespace Go.Proofs.Yteljllpkjhkanaa.frameFeeds
open Go.RowKit Go.Proofs.YteljllpkjhkanaaW.PrintWords Go.Proofs.YteljllpkjhkanaaW.PrintLast Go.Proofs.YteljllpkjhkanaaW.PrintMore Go.Proofs.Yteljllpkjhkanaa.Q Go.Proofs.Yteljllpkjhkanaa.La
set_option linter.unusedSimpArgs false
set_option linter.unusedVariables false
theorem F_nil : F ByteArray.empty 0 false = (ByteArray.empty, 0, false, []) := F_off (st_short (by decide))
theorem run1 (l : List ByteArray) (h40 : l.length ≤ 40) (ht : (pre l l.length).size ≤ 4000) : ∀ (n j : Nat), j ≤ l.length → l.length - j < n → ∀ k, n + 20000 ≤ k → sandglasslaw20_FrameFeeds.l1 k l (pre l j) (F (pre l j) 0 false).2.2.2.length (F (pre l j) 0 false).1 (F (pre l j) 0 false).2.1 (F (pre l j) 0 false).2.2.1 j = some true
  | 0, _, _, h => absurd h (Nat.not_lt_zero _)
  | n + 1, j, hj, hn => by
    intro k hk
    obtain ⟨k, rfl⟩ : ∃ q, k = q + 1 := ⟨k - 1, by omega⟩
    rw [sandglasslaw20_FrameFeeds.l1]
    by_cases hlt : j < l.length
    · have hle : (pre l (j + 1)).size ≤ 4000 := by
        have := pre_le l (j + 1) (l.length - (j + 1))
        rw [show j + 1 + (l.length - (j + 1)) = l.length by omega] at this
        omega
      have hsum : (pre l j).size + (rdOf ByteArray.empty l (j : Int)).size = (pre l (j + 1)).size := (szA _ _).symm
      obtain ⟨s1, s2, s3, s4⟩ := F_sk (me (pre l j) false + 1) (pre l j) 0 false (Nat.lt_succ_self _) (Int.le_refl _)
      obtain ⟨q1, q2, q3, q4⟩ := F_sk (me ((F (pre l j) 0 false).1 ++ rdOf ByteArray.empty l (j : Int)) (F (pre l j) 0 false).2.2.1 + 1) ((F (pre l j) 0 false).1 ++ rdOf ByteArray.empty l (j : Int)) (F (pre l j) 0 false).2.1 (F (pre l j) 0 false).2.2.1 (Nat.lt_succ_self _) s1
      rw [szA] at q2
      have J := F_join (me (pre l j) false + 1) (pre l j) 0 false (Nat.lt_succ_self _) (Int.le_refl _) (rdOf ByteArray.empty l (j : Int))
      rw [if_pos hlt, if_pos (by omega)]
      rw [pieces_at (by show (pre l (j + 1)).size ≤ _; omega) (by show 2 * (pre l (j + 1)).size + 2 ≤ _; omega), Option.bind_some]
      rw [feed_at s1 (by omega) (by omega), Option.bind_some]
      have J4 : (F (pre l j ++ rdOf ByteArray.empty l (j : Int)) 0 false).2.2.2 = (F (pre l j) 0 false).2.2.2 ++ (F ((F (pre l j) 0 false).1 ++ rdOf ByteArray.empty l (j : Int)) (F (pre l j) 0 false).2.1 (F (pre l j) 0 false).2.2.1).2.2.2 := by rw [J]
      have J1 : (F (pre l j ++ rdOf ByteArray.empty l (j : Int)) 0 false).1 = (F ((F (pre l j) 0 false).1 ++ rdOf ByteArray.empty l (j : Int)) (F (pre l j) 0 false).2.1 (F (pre l j) 0 false).2.2.1).1 := by rw [J]
      have J2 : (F (pre l j ++ rdOf ByteArray.empty l (j : Int)) 0 false).2.1 = (F ((F (pre l j) 0 false).1 ++ rdOf ByteArray.empty l (j : Int)) (F (pre l j) 0 false).2.1 (F (pre l j) 0 false).2.2.1).2.1 := by rw [J]
      have J3 : (F (pre l j ++ rdOf ByteArray.empty l (j : Int)) 0 false).2.2.1 = (F ((F (pre l j) 0 false).1 ++ rdOf ByteArray.empty l (j : Int)) (F (pre l j) 0 false).2.1 (F (pre l j) 0 false).2.2.1).2.2.1 := by rw [J]
      dsimp only
      rw [if_pos (by rw [List.length_map, J4, List.length_append]; omega)]
      rw [same_is (by rw [J4, List.map_append, List.drop_left' (by rw [List.length_map])]) (by omega) (by omega), Option.bind_some, if_pos rfl, if_pos (by rw [J1])]
      rw [← J1, ← J2, ← J3, List.length_map]
      exact run1 l h40 ht n (j + 1) (by omega) (by omega) k (by omega)
    · rw [if_neg hlt]
theorem run0 (l : List ByteArray) (h40 : l.length ≤ 40) : ∀ (n j : Nat), j ≤ l.length → l.length - j < n → (∀ i, i < j → (rdOf ByteArray.empty l (i : Int)).size ≤ 4000) → ∀ k, n + 20100 ≤ k → sandglasslaw20_FrameFeeds.l0 k l j = some true
  | 0, _, _, h => absurd h (Nat.not_lt_zero _)
  | n + 1, j, hj, hn => by
    intro hi k hk
    obtain ⟨k, rfl⟩ : ∃ q, k = q + 1 := ⟨k - 1, by omega⟩
    rw [sandglasslaw20_FrameFeeds.l0]
    by_cases hlt : j < l.length
    · rw [if_pos hlt]
      by_cases h4 : (rdOf ByteArray.empty l (j : Int)).size > 4000
      · rw [if_pos h4]
      · rw [if_neg h4]
        refine run0 l h40 n (j + 1) (by omega) (by omega) (fun i hi' => ?_) k (by omega)
        by_cases e : i = j
        · subst e; omega
        · exact hi i (by omega)
    · rw [if_neg hlt]
      have e : j = l.length := by omega
      subst e
      rw [few_at h40 hi (by omega), Option.bind_some]
      by_cases ht : (pre l l.length).size ≤ 4000
      · rw [decide_eq_true ht, if_pos rfl]
        have := run1 l h40 ht (l.length + 1) 0 (Nat.zero_le _) (by omega) k (by omega)
        rw [show pre l 0 = ByteArray.empty from rfl, F_nil] at this
        exact this
      · rw [decide_eq_false ht, if_neg (by simp)]
theorem pure : Pure := by
  intro l _
  refine ⟨30000, ?_⟩
  unfold sandglasslaw20_FrameFeeds.f
  by_cases h : l.length > 40
  · rw [if_pos h]
  · rw [if_neg h]
    exact run0 l (by omega) (l.length + 1) 0 (Nat.zero_le _) (by omega) (fun i hi => absurd hi (Nat.not_lt_zero _)) 30000 (by omega)
end Go.Proofs.Yteljllpkjhkanaa.frameFeeds
