/- HashLast: proved of the printed functions. -/
import Derived.Test.YtkjhhiiickcebaaStHashLast
import Derived.Test.YtkjhhiiickcebaaHashLa
namespace Go.Proofs.Ytkjhhiiickcebaa.hashLast
open Go.RowKit Go.Proofs.YtkjhhiiickcebaaW.PrintWords Go.Proofs.YtkjhhiiickcebaaW.PrintLast Go.Proofs.YtkjhhiiickcebaaW.PrintMore Go.Proofs.Ytkjhhiiickcebaa.Q Go.Proofs.Ytkjhhiiickcebaa.La
set_option linter.unusedSimpArgs false
set_option linter.unusedVariables false
theorem sumL_snoc' (h : Int) (l : List UInt8) (b : UInt8) : sumL h (l ++ [b]) = mixI (Go.bits .xor .u64 (sumL h l) ((b.toNat : Int) + 1)) := by simp [sumL]
theorem last_data (s : ByteArray) (c : Int) : (s ++ strOfNums [c]).data.toList = s.data.toList ++ [UInt8.ofNat c.toNat] := by simp [strOfNums_data]
theorem pure : Pure := by
  intro a s c d wa hs wc wd
  have ha : U a := u64_is wa
  have hc := u8_is wc
  have hd := u8_is wd
  refine ⟨60, ?_⟩
  unfold sandglasslaw03_HashLast.f
  by_cases h : (s.size : Int) > 100
  · rw [if_pos h]; simp only [live_at (show 40 ≤ 60 by omega), Option.bind_some]
  rw [if_neg h]
  have z1 : ∀ x : Int, (strOfNums [x]).size = 1 := fun x => by rw [strOfNums_size]; rfl
  have z2 : ∀ x : Int, (s ++ strOfNums [x]).size = s.size + 1 := fun x => by rw [ByteArray.size_append, z1]
  simp only [Option.bind_some, z1]
  rw [if_pos (by omega), sum_f _ _ (by rw [z2]; omega), Option.bind_some, if_pos (by omega), sum_f _ _ (by rw [z2]; omega), Option.bind_some, live_at (show 40 ≤ 60 by omega), Option.bind_some]
  have b1 : ∀ x : Int, 0 ≤ x ∧ x ≤ 255 → ((UInt8.ofNat x.toNat).toNat : Int) = x := fun x hx => by
    have : x.toNat % 256 = x.toNat := Nat.mod_eq_of_lt (by omega)
    simp [UInt8.toNat_ofNat]; omega
  rw [if_pos]
  apply beq_iff
  rw [sumI_iff ha ha (by rw [z2]; omega) (by rw [z2, z2]), last_data, last_data, sumL_snoc', sumL_snoc', b1 c hc, b1 d hd]
  constructor
  · intro h2
    have h3 := mix_inj (U.xor _ _) (U.xor _ _) h2
    have h4 := xor_left (U.sum (U.mix ha) _) (by unfold U; omega) (by unfold U; omega) h3
    omega
  · intro h2; rw [h2]
end Go.Proofs.Ytkjhhiiickcebaa.hashLast
