/- HashNames: proved of the printed functions. -/
import Derived.Test.YtkjhhiiickcebaaStHashNames
import Derived.Test.YtkjhhiiickcebaaHashLa
namespace Go.Proofs.Ytkjhhiiickcebaa.hashNames
open Go.RowKit Go.Proofs.YtkjhhiiickcebaaW.PrintWords Go.Proofs.YtkjhhiiickcebaaW.PrintLast Go.Proofs.YtkjhhiiickcebaaW.PrintMore Go.Proofs.Ytkjhhiiickcebaa.Q Go.Proofs.Ytkjhhiiickcebaa.La
set_option linter.unusedSimpArgs false
set_option linter.unusedVariables false
theorem sumL_snoc' (h : Int) (l : List UInt8) (b : UInt8) : sumL h (l ++ [b]) = mixI (Go.bits .xor .u64 (sumL h l) ((b.toNat : Int) + 1)) := by simp [sumL]
theorem pure : Pure := by
  intro a c d s t wa wc wd hs ht
  have ha : U a := u64_is wa
  refine ⟨60, ?_⟩
  have T : sandglasslaw03_HashNames.j0 60 a true c d s t = some true := by
    simp only [show (60 : Nat) = 59 + 1 from rfl, sandglasslaw03_HashNames.j0, if_true, live_at (show 40 ≤ 59 by omega), Option.bind_some]
  unfold sandglasslaw03_HashNames.f
  by_cases h : (s.size : Int) > 100
  · rw [if_pos h, T]
  rw [if_neg h]
  by_cases h2 : (t.size : Int) > 100
  · rw [decide_eq_true h2, T]
  rw [decide_eq_false h2]
  have z : ∀ x : ByteArray, (x ++ (⟨#[120]⟩ : ByteArray)).size = x.size + 1 := fun x => by rw [ByteArray.size_append]; rfl
  simp only [show (60 : Nat) = 59 + 1 from rfl, sandglasslaw03_HashNames.j0, Bool.false_eq_true, if_false]
  unfold hash_Name.f
  have hz1 : s.size ≤ 1000000 := by omega
  have hz2 : t.size ≤ 1000000 := by omega
  rw [mix_f, Option.bind_some, Option.bind_some, sum_f _ s hz1, Option.bind_some, Option.bind_some, Option.bind_some, if_pos rfl, sum_f _ s hz1, Option.bind_some, sum_f _ t hz2, Option.bind_some, live_at (show 40 ≤ 59 by omega), Option.bind_some]
  by_cases h3 : (s.size : Int) = (t.size : Int)
  · rw [if_pos h3, if_pos (by omega), sum_f _ _ (by rw [z]; omega), Option.bind_some, if_pos (by omega), sum_f _ _ (by rw [z]; omega), Option.bind_some, if_pos]
    apply beq_iff
    rw [sumI_iff ha ha (by omega) (by omega), sumI_iff ha ha (by rw [z]; omega) (by rw [z, z]; omega)]
    have e : ∀ x : ByteArray, (x ++ (⟨#[120]⟩ : ByteArray)).data.toList = x.data.toList ++ [120] := fun x => by simp
    rw [e, e, sumL_snoc', sumL_snoc']
    constructor
    · intro h4; rw [h4]
    · intro h4
      exact xor_right (U.byte _) (U.sum (U.mix ha) _) (U.sum (U.mix ha) _) (mix_inj (U.xor _ _) (U.xor _ _) h4)
  · rw [if_neg h3]
end Go.Proofs.Ytkjhhiiickcebaa.hashNames
