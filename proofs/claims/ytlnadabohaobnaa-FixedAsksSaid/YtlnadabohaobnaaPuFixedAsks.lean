/- FixedAsks: proved of the printed functions. -/
import Derived.Test.YtlnadabohaobnaaStFixedAsks
import Derived.Test.YtlnadabohaobnaaFixedLa
import Derived.Test.YtlnadabohaobnaaFixedLive
namespace Go.Proofs.Ytlnadabohaobnaa.fixedAsks
open Go.RowKit Go.Proofs.YtlnadabohaobnaaW.PrintWords Go.Proofs.YtlnadabohaobnaaW.PrintLast Go.Proofs.YtlnadabohaobnaaW.PrintMore Go.Proofs.Ytlnadabohaobnaa.Q Go.Proofs.Ytlnadabohaobnaa.La
set_option linter.unusedSimpArgs false
set_option linter.unusedVariables false
theorem ask_len (k l w b a v : Int) (s : List Int) (h : List S53) (t x : Int) (hs : s.length ≤ 40) (hh : h.length ≤ 40) : (askV k l w b a v s h t x).2.2.1.length ≤ 40 ∧ (askV k l w b a v s h t x).2.2.2.1.length ≤ 40 := by
  unfold askV askF
  split
  · dsimp only
    split <;> simp
  · exact ⟨hs, hh⟩
theorem pure : Pure := by
  intro k l w b a v s h t x _ _ _ _ _ _ _ _ _ _
  refine ⟨200, ?_⟩
  unfold sandglasslaw11_FixedAsks.f
  rw [few_f]
  simp only [Option.bind_some, live_at (show 40 ≤ 200 by omega)]
  cases hf : (decide (s.length ≤ 40) && decide (h.length ≤ 40))
  · simp
  simp only [Bool.and_eq_true, decide_eq_true_eq] at hf
  have hl := ask_len k l w b a v s h t x hf.1 hf.2
  simp only [if_true, ask_f' (show 3 ≤ 200 by omega), ask_r' (show 4 ≤ 200 by omega), Option.bind_some, same_refl' (show 100 ≤ 200 by omega) _ _ _ _ hl.1 hl.2, may_f, may_r' (show 3 ≤ 200 by omega), total_f' (show 1 ≤ 200 by omega), total_r' (show 3 ≤ 200 by omega), ends_f, ends_r' (show 3 ≤ 200 by omega)]
  simp
end Go.Proofs.Ytlnadabohaobnaa.fixedAsks
