/- FrameJoins: proved of the functions. -/
import Derived.Test.YteljllpkjhkanaaStFrameJoins
import Derived.Test.YteljllpkjhkanaaFrameLb
namespace Go.Proofs.Yteljllpkjhkanaa.frameJoins
open Go.RowKit Go.Proofs.YteljllpkjhkanaaW.PrintWords Go.Proofs.YteljllpkjhkanaaW.PrintLast Go.Proofs.YteljllpkjhkanaaW.PrintMore Go.Proofs.Yteljllpkjhkanaa.Q Go.Proofs.Yteljllpkjhkanaa.La
set_option linter.unusedSimpArgs false
set_option linter.unusedVariables false
/-- Behind good frames alone a reader is as a new one. -/
theorem run_e (s t : ByteArray) (hs : s.size ≤ 2000) (ht : t.size ≤ 2000) (hg : ∀ p ∈ (F s 0 false).2.2.2, p.f1 = 0) (hl : (F s 0 false).1.size = 0) (k : Nat) (hk : 20000 ≤ k) : sandglasslaw20_FrameJoins.e k (F s 0 false).2.2.2.length s t = some true := by
  obtain ⟨s1, s2, s3, s4⟩ := F_sk (me s false + 1) s 0 false (Nat.lt_succ_self _) (Int.le_refl _)
  obtain ⟨g1, g2⟩ := s4 rfl hg
  have g3 : (F s 0 false).1 = ByteArray.empty := by
    apply bx
    have := sz (F s 0 false).1
    rw [hl] at this
    rw [List.eq_nil_of_length_eq_zero this.symm]; rfl
  obtain ⟨t1, t2, t3, t4⟩ := F_sk (me t false + 1) t 0 false (Nat.lt_succ_self _) (Int.le_refl _)
  unfold sandglasslaw20_FrameJoins.e
  rw [feed_at (Int.le_refl _) (by show 0 + s.size ≤ _; omega) (by show 2 * (0 + s.size) + 3 ≤ _; omega), Option.bind_some, emA, g1, g2, g3]
  rw [feed_at (Int.le_refl _) (by show 0 + t.size ≤ _; omega) (by show 2 * (0 + t.size) + 3 ≤ _; omega), Option.bind_some, Option.bind_some, emA]
  rw [if_pos ⟨rfl, rfl, rfl, by omega⟩]
theorem rd_mem {l : List S37} {j : Nat} (h : j < l.length) : rd_T37 l (j : Int) ∈ l := by
  unfold rd_T37
  simp [List.getD_eq_getElem?_getD, h]
theorem run0 (s t : ByteArray) (hs : s.size ≤ 2000) (ht : t.size ≤ 2000) : ∀ (d j n : Nat), j ≤ (F s 0 false).2.2.2.length → (F s 0 false).2.2.2.length - j < d → n ≤ 3000 * j → (∀ i, i < j → (rd_T37 (F s 0 false).2.2.2 (i : Int)).f1 = 0) → ∀ k, d + 20000 ≤ k → sandglasslaw20_FrameJoins.l0 k ((F s 0 false).2.2.2.map cv) ((F s 0 false).1.size : Int) s t n j = some true
  | 0, _, _, _, h => absurd h (Nat.not_lt_zero _)
  | d + 1, j, n, hj, hd => by
    intro hn hi k hk
    obtain ⟨k, rfl⟩ : ∃ q, k = q + 1 := ⟨k - 1, by omega⟩
    obtain ⟨s1, s2, s3, s4⟩ := F_sk (me s false + 1) s 0 false (Nat.lt_succ_self _) (Int.le_refl _)
    rw [sandglasslaw20_FrameJoins.l0, List.length_map]
    by_cases hlt : j < (F s 0 false).2.2.2.length
    · rw [if_pos hlt, rd_cv hlt]
      have hz := s3 _ (rd_mem hlt)
      rw [if_pos (by show n + 2 + (rd_T37 (F s 0 false).2.2.2 (j : Int)).f0.size ≤ _; omega)]
      by_cases hc : (rd_T37 (F s 0 false).2.2.2 (j : Int)).f1 = 0
      · rw [if_pos (show (cv _).f1 = 0 from hc)]
        refine run0 s t hs ht d (j + 1) _ (by omega) (by omega) (by show n + 2 + (rd_T37 (F s 0 false).2.2.2 (j : Int)).f0.size ≤ _; omega) (fun i hi' => ?_) k (by omega)
        by_cases e : i = j
        · subst e; exact hc
        · exact hi i (by omega)
      · rw [if_neg (show ¬ (cv _).f1 = 0 from hc)]
    · rw [if_neg hlt]
      by_cases hh : ((F s 0 false).1.size : Int) = 0 ∧ n = s.size
      · rw [if_pos hh]
        refine run_e s t hs ht (fun p hp => ?_) (by omega) k (by omega)
        obtain ⟨i, hil, e⟩ := List.mem_iff_getElem.1 hp
        have := hi i (by omega)
        unfold rd_T37 at this
        rw [Int.toNat_natCast, List.getD_eq_getElem?_getD, List.getElem?_eq_getElem hil, Option.getD_some, e] at this
        exact this
      · rw [if_neg hh]
theorem pure : Pure := by
  intro s t _ _
  refine ⟨30000, ?_⟩
  unfold sandglasslaw20_FrameJoins.f
  by_cases h : s.size > 2000 ∨ t.size > 2000
  · rw [if_pos h]
  · rw [if_neg h, pieces_at (by omega) (by omega), Option.bind_some]
    obtain ⟨s1, s2, s3, s4⟩ := F_sk (me s false + 1) s 0 false (Nat.lt_succ_self _) (Int.le_refl _)
    dsimp only
    rw [if_pos (by rw [List.length_map]; omega)]
    exact run0 s t (by omega) (by omega) ((F s 0 false).2.2.2.length + 1) 0 0 (Nat.zero_le _) (by omega) (Nat.zero_le _) (fun i hi => absurd hi (Nat.not_lt_zero _)) 30000 (by omega)
end Go.Proofs.Yteljllpkjhkanaa.frameJoins
