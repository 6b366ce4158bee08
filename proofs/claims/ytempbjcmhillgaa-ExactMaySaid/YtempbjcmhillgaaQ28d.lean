-- Laid by wip/tools/hprint.py, a program of this repo, over the kit's print; not a text of print.sh.
import Derived.Test.YtempbjcmhillgaaQ0
import Derived.Test.YtempbjcmhillgaaQ3
import Derived.Test.YtempbjcmhillgaaQ7
import Derived.Test.YtempbjcmhillgaaQ13
import Derived.Test.YtempbjcmhillgaaQ14
import Derived.Test.YtempbjcmhillgaaQ15
import Derived.Test.YtempbjcmhillgaaQ16
import Derived.Test.YtempbjcmhillgaaQ19
import Derived.Test.YtempbjcmhillgaaQ20
namespace Go.Proofs.Ytempbjcmhillgaa.Q
open Go.RowKit Go.Proofs.Ytempbjcmhillgaa.Zip Go.Proofs.YtempbjcmhillgaaW.PrintWords Go.Proofs.YtempbjcmhillgaaW.PrintLast Go.Proofs.YtempbjcmhillgaaW.PrintMore
attribute [local go_sem] max2_int min2_int max_two min_two max_three min_three max_four min_four   -- for this text's walks alone
set_option linter.unusedVariables false
set_option linter.unusedSimpArgs false

/-! ### sandglasslaw13_ExactMay: function 4 -/
mutual
def sandglasslaw13_ExactMay.j0 : Nat → Int → Int → Bool → Int → Int → Int → Int → Int → Int → List Int → List (S50) → Option (Bool)
  | 0, _, _, _, _, _, _, _, _, _, _, _ => none
  | k + 1, x7, x8, x47, x370000, x370001, x370002, x370003, x371000, x371001, x371002, x371003 => if x47 = true then ((sandglasslaw13_live.f k).bind fun t375 => (some t375)) else ((exact_Ask.f k x370000 x370001 x370002 x370003 x371000 x371001 x371002 x371003 x7 x8).bind fun bt376 => ((exact_May.f k x370000 x370001 x370002 x370003 bt376.1 bt376.2.1 bt376.2.2.1 bt376.2.2.2.1).bind fun t390 => (if t390 = true then (if bt376.1 = (mx x7 x371000) then ((exact_Total.f k x370000 x370001 x370002 x370003 bt376.1 bt376.2.1 bt376.2.2.1 bt376.2.2.2.1 bt376.1).bind fun t391 => (if bt376.2.2.2.2.2.1 = (wrap64 (x370001 - t391)) then (sandglasslaw13_ExactMay.j1 k x8 (decide (bt376.2.2.2.2.2.1 < 0)) x370000 x370001 x370002 x370003 bt376.1 bt376.2.1 bt376.2.2.1 bt376.2.2.2.1 bt376.2.2.2.2.1 bt376.2.2.2.2.2.1 bt376.2.2.2.2.2.2.1 bt376.2.2.2.2.2.2.2) else (sandglasslaw13_ExactMay.j1 k x8 true x370000 x370001 x370002 x370003 bt376.1 bt376.2.1 bt376.2.2.1 bt376.2.2.2.1 bt376.2.2.2.2.1 bt376.2.2.2.2.2.1 bt376.2.2.2.2.2.2.1 bt376.2.2.2.2.2.2.2))) else (sandglasslaw13_ExactMay.j1 k x8 true x370000 x370001 x370002 x370003 bt376.1 bt376.2.1 bt376.2.2.1 bt376.2.2.2.1 bt376.2.2.2.2.1 bt376.2.2.2.2.2.1 bt376.2.2.2.2.2.2.1 bt376.2.2.2.2.2.2.2)) else (sandglasslaw13_ExactMay.j1 k x8 true x370000 x370001 x370002 x370003 bt376.1 bt376.2.1 bt376.2.2.1 bt376.2.2.2.1 bt376.2.2.2.2.1 bt376.2.2.2.2.2.1 bt376.2.2.2.2.2.2.1 bt376.2.2.2.2.2.2.2))))
def sandglasslaw13_ExactMay.j1 : Nat → Int → Bool → Int → Int → Int → Int → Int → Int → List Int → List (S50) → Bool → Int → Int → Int → Option (Bool)
  | 0, _, _, _, _, _, _, _, _, _, _, _, _, _, _ => none
  | k + 1, x8, x87, x370000, x370001, x370002, x370003, x389000, x389001, x389002, x389003, x390000, x390001, x390002, x390003 => if x87 = true then (none) else (if x390001 > 0 then ((exact_Ask.f k x370000 x370001 x370002 x370003 x389000 x389001 x389002 x389003 x389000 x390001).bind fun bt392 => (if bt392.2.2.2.2.1 = true then (sandglasslaw13_ExactMay.j2 k x8 x370000 x370001 x370002 x370003 x389000 x389001 x389002 x389003 x390000 x390001 x390002 x390003) else (none))) else (sandglasslaw13_ExactMay.j2 k x8 x370000 x370001 x370002 x370003 x389000 x389001 x389002 x389003 x390000 x390001 x390002 x390003))
def sandglasslaw13_ExactMay.j2 : Nat → Int → Int → Int → Int → Int → Int → Int → List Int → List (S50) → Bool → Int → Int → Int → Option (Bool)
  | 0, _, _, _, _, _, _, _, _, _, _, _, _, _ => none
  | k + 1, x8, x370000, x370001, x370002, x370003, x389000, x389001, x389002, x389003, x390000, x390001, x390002, x390003 => (exact_Total.f k x370000 x370001 x370002 x370003 x389000 x389001 x389002 x389003 (wrap64 (x389000 + x390003))).bind fun t406 => (if t406 = 0 then (if x390003 > 0 then ((exact_Total.f k x370000 x370001 x370002 x370003 x389000 x389001 x389002 x389003 (wrap64 ((wrap64 (x389000 + x390003)) - 1))).bind fun t407 => (if t407 = 0 then (sandglasslaw13_ExactMay.j3 k x8 true x370000 x370001 x370002 x370003 x389000 x389001 x389002 x389003 x390000 x390001 x390002 x390003) else ((exact_Ends.f k x370000 x370001 x370002 x370003 x389000 x389001 x389002 x389003).bind fun t408 => (sandglasslaw13_ExactMay.j3 k x8 (t408 != (wrap64 (x389000 + x390003))) x370000 x370001 x370002 x370003 x389000 x389001 x389002 x389003 x390000 x390001 x390002 x390003)))) else ((exact_Ends.f k x370000 x370001 x370002 x370003 x389000 x389001 x389002 x389003).bind fun t409 => (sandglasslaw13_ExactMay.j3 k x8 (t409 != (wrap64 (x389000 + x390003))) x370000 x370001 x370002 x370003 x389000 x389001 x389002 x389003 x390000 x390001 x390002 x390003))) else (sandglasslaw13_ExactMay.j3 k x8 true x370000 x370001 x370002 x370003 x389000 x389001 x389002 x389003 x390000 x390001 x390002 x390003))
def sandglasslaw13_ExactMay.j3 : Nat → Int → Bool → Int → Int → Int → Int → Int → Int → List Int → List (S50) → Bool → Int → Int → Int → Option (Bool)
  | 0, _, _, _, _, _, _, _, _, _, _, _, _, _, _ => none
  | k + 1, x8, x140, x370000, x370001, x370002, x370003, x389000, x389001, x389002, x389003, x390000, x390001, x390002, x390003 => if x140 = true then (none) else (if x390000 = true then (if x390002 = 0 then ((sandglasslaw13_live.f k).bind fun t410 => (some t410)) else (none)) else (if x8 > x370001 then (if x390002 = 2199023255552 then ((sandglasslaw13_live.f k).bind fun t411 => (some t411)) else (none)) else ((exact_Ask.f k x370000 x370001 x370002 x370003 x389000 x389001 x389002 x389003 (wrap64 (x389000 + x390002)) x8).bind fun bt412 => ((exact_Ask.f k x370000 x370001 x370002 x370003 x389000 x389001 x389002 x389003 (wrap64 ((wrap64 (x389000 + x390002)) - 1)) x8).bind fun bt426 => (if x390002 > 0 then (if bt412.2.2.2.2.1 = true then (if bt426.2.2.2.2.1 = true then (none) else ((sandglasslaw13_live.f k).bind fun t440 => (some t440))) else (none)) else (none))))))
end
def sandglasslaw13_ExactMay.f (k : Nat) (a0_0 : Int) (a0_1 : Int) (a0_2 : Int) (a0_3 : Int) (a1_0 : Int) (a1_1 : Int) (l1_2 : List Int) (l1_3 : List (S50)) (a2_0 : Int) (a2_1 : Int) : Option (Bool) := (sandglassref10_Few.f a1_0 a1_1 l1_2 l1_3).bind fun t372 => (if t372 = true then ((sandglassref13_May.f k a0_0 a0_1 a0_2 a0_3 a1_0 a1_1 l1_2 l1_3).bind fun t373 => (if t373 = true then (if a2_0 < 0 then (sandglasslaw13_ExactMay.j0 k a2_0 a2_1 true a0_0 a0_1 a0_2 a0_3 a1_0 a1_1 l1_2 l1_3) else (if a2_0 > 549755813888 then (sandglasslaw13_ExactMay.j0 k a2_0 a2_1 true a0_0 a0_1 a0_2 a0_3 a1_0 a1_1 l1_2 l1_3) else (if a1_0 > 549755813888 then (sandglasslaw13_ExactMay.j0 k a2_0 a2_1 true a0_0 a0_1 a0_2 a0_3 a1_0 a1_1 l1_2 l1_3) else ((sandglassref09_Weighs.f a2_1).bind fun t374 => (sandglasslaw13_ExactMay.j0 k a2_0 a2_1 (!t374) a0_0 a0_1 a0_2 a0_3 a1_0 a1_1 l1_2 l1_3))))) else (sandglasslaw13_ExactMay.j0 k a2_0 a2_1 true a0_0 a0_1 a0_2 a0_3 a1_0 a1_1 l1_2 l1_3))) else (sandglasslaw13_ExactMay.j0 k a2_0 a2_1 true a0_0 a0_1 a0_2 a0_3 a1_0 a1_1 l1_2 l1_3))
theorem sandglasslaw13_ExactMay.mono_l : ∀ k, (∀ y0 y1 y2 y3 y4 y5 y6 y7 y8 y9 y10, LeO (sandglasslaw13_ExactMay.j0 k y0 y1 y2 y3 y4 y5 y6 y7 y8 y9 y10) (sandglasslaw13_ExactMay.j0 (k + 1) y0 y1 y2 y3 y4 y5 y6 y7 y8 y9 y10)) ∧ (∀ y0 y1 y2 y3 y4 y5 y6 y7 y8 y9 y10 y11 y12 y13, LeO (sandglasslaw13_ExactMay.j1 k y0 y1 y2 y3 y4 y5 y6 y7 y8 y9 y10 y11 y12 y13) (sandglasslaw13_ExactMay.j1 (k + 1) y0 y1 y2 y3 y4 y5 y6 y7 y8 y9 y10 y11 y12 y13)) ∧ (∀ y0 y1 y2 y3 y4 y5 y6 y7 y8 y9 y10 y11 y12, LeO (sandglasslaw13_ExactMay.j2 k y0 y1 y2 y3 y4 y5 y6 y7 y8 y9 y10 y11 y12) (sandglasslaw13_ExactMay.j2 (k + 1) y0 y1 y2 y3 y4 y5 y6 y7 y8 y9 y10 y11 y12)) ∧ (∀ y0 y1 y2 y3 y4 y5 y6 y7 y8 y9 y10 y11 y12 y13, LeO (sandglasslaw13_ExactMay.j3 k y0 y1 y2 y3 y4 y5 y6 y7 y8 y9 y10 y11 y12 y13) (sandglasslaw13_ExactMay.j3 (k + 1) y0 y1 y2 y3 y4 y5 y6 y7 y8 y9 y10 y11 y12 y13))
  | 0 => ⟨fun _ _ _ _ _ _ _ _ _ _ _ r h => by simp [sandglasslaw13_ExactMay.j0] at h, fun _ _ _ _ _ _ _ _ _ _ _ _ _ _ r h => by simp [sandglasslaw13_ExactMay.j1] at h, fun _ _ _ _ _ _ _ _ _ _ _ _ _ r h => by simp [sandglasslaw13_ExactMay.j2] at h, fun _ _ _ _ _ _ _ _ _ _ _ _ _ _ r h => by simp [sandglasslaw13_ExactMay.j3] at h⟩
  | k + 1 => by
    obtain ⟨ih0, ih1, ih2, ih3⟩ := sandglasslaw13_ExactMay.mono_l k
    refine ⟨?_, ?_, ?_, ?_⟩
    · intro y0 y1 y2 y3 y4 y5 y6 y7 y8 y9 y10
      unfold sandglasslaw13_ExactMay.j0
      repeat' first
      | (with_reducible exact ih0 _ _ _ _ _ _ _ _ _ _ _)
      | (with_reducible exact ih1 _ _ _ _ _ _ _ _ _ _ _ _ _ _)
      | (with_reducible exact ih2 _ _ _ _ _ _ _ _ _ _ _ _ _)
      | (with_reducible exact ih3 _ _ _ _ _ _ _ _ _ _ _ _ _ _)
      | (with_reducible exact exact_Ask.mono _ _ _ _ _ _ _ _ _ _ _)
      | (with_reducible exact exact_Ends.mono _ _ _ _ _ _ _ _ _)
      | (with_reducible exact exact_May.mono _ _ _ _ _ _ _ _ _)
      | (with_reducible exact exact_Total.mono _ _ _ _ _ _ _ _ _ _)
      | (with_reducible exact sandglasslaw13_live.mono _)
      | (with_reducible exact sandglassref13_May.mono _ _ _ _ _ _ _ _ _)
      | (with_reducible exact LeO.refl _)
      | (with_reducible exact LeO.none _)
      | (with_reducible refine LeO.ite ?_ ?_)
      | (with_reducible refine LeO.bind ?_ (fun _ => ?_))
      | exact ih0 _ _ _ _ _ _ _ _ _ _ _
      | exact ih1 _ _ _ _ _ _ _ _ _ _ _ _ _ _
      | exact ih2 _ _ _ _ _ _ _ _ _ _ _ _ _
      | exact ih3 _ _ _ _ _ _ _ _ _ _ _ _ _ _
      | exact exact_Ask.mono _ _ _ _ _ _ _ _ _ _ _
      | exact exact_Ends.mono _ _ _ _ _ _ _ _ _
      | exact exact_May.mono _ _ _ _ _ _ _ _ _
      | exact exact_Total.mono _ _ _ _ _ _ _ _ _ _
      | exact sandglasslaw13_live.mono _
      | exact sandglassref13_May.mono _ _ _ _ _ _ _ _ _
      | exact LeO.none _
      | refine LeO.ite ?_ ?_
      | refine LeO.bind ?_ (fun _ => ?_)
    · intro y0 y1 y2 y3 y4 y5 y6 y7 y8 y9 y10 y11 y12 y13
      unfold sandglasslaw13_ExactMay.j1
      repeat' first
      | (with_reducible exact ih0 _ _ _ _ _ _ _ _ _ _ _)
      | (with_reducible exact ih1 _ _ _ _ _ _ _ _ _ _ _ _ _ _)
      | (with_reducible exact ih2 _ _ _ _ _ _ _ _ _ _ _ _ _)
      | (with_reducible exact ih3 _ _ _ _ _ _ _ _ _ _ _ _ _ _)
      | (with_reducible exact exact_Ask.mono _ _ _ _ _ _ _ _ _ _ _)
      | (with_reducible exact exact_Ends.mono _ _ _ _ _ _ _ _ _)
      | (with_reducible exact exact_May.mono _ _ _ _ _ _ _ _ _)
      | (with_reducible exact exact_Total.mono _ _ _ _ _ _ _ _ _ _)
      | (with_reducible exact sandglasslaw13_live.mono _)
      | (with_reducible exact sandglassref13_May.mono _ _ _ _ _ _ _ _ _)
      | (with_reducible exact LeO.refl _)
      | (with_reducible exact LeO.none _)
      | (with_reducible refine LeO.ite ?_ ?_)
      | (with_reducible refine LeO.bind ?_ (fun _ => ?_))
      | exact ih0 _ _ _ _ _ _ _ _ _ _ _
      | exact ih1 _ _ _ _ _ _ _ _ _ _ _ _ _ _
      | exact ih2 _ _ _ _ _ _ _ _ _ _ _ _ _
      | exact ih3 _ _ _ _ _ _ _ _ _ _ _ _ _ _
      | exact exact_Ask.mono _ _ _ _ _ _ _ _ _ _ _
      | exact exact_Ends.mono _ _ _ _ _ _ _ _ _
      | exact exact_May.mono _ _ _ _ _ _ _ _ _
      | exact exact_Total.mono _ _ _ _ _ _ _ _ _ _
      | exact sandglasslaw13_live.mono _
      | exact sandglassref13_May.mono _ _ _ _ _ _ _ _ _
      | exact LeO.none _
      | refine LeO.ite ?_ ?_
      | refine LeO.bind ?_ (fun _ => ?_)
    · intro y0 y1 y2 y3 y4 y5 y6 y7 y8 y9 y10 y11 y12
      unfold sandglasslaw13_ExactMay.j2
      repeat' first
      | (with_reducible exact ih0 _ _ _ _ _ _ _ _ _ _ _)
      | (with_reducible exact ih1 _ _ _ _ _ _ _ _ _ _ _ _ _ _)
      | (with_reducible exact ih2 _ _ _ _ _ _ _ _ _ _ _ _ _)
      | (with_reducible exact ih3 _ _ _ _ _ _ _ _ _ _ _ _ _ _)
      | (with_reducible exact exact_Ask.mono _ _ _ _ _ _ _ _ _ _ _)
      | (with_reducible exact exact_Ends.mono _ _ _ _ _ _ _ _ _)
      | (with_reducible exact exact_May.mono _ _ _ _ _ _ _ _ _)
      | (with_reducible exact exact_Total.mono _ _ _ _ _ _ _ _ _ _)
      | (with_reducible exact sandglasslaw13_live.mono _)
      | (with_reducible exact sandglassref13_May.mono _ _ _ _ _ _ _ _ _)
      | (with_reducible exact LeO.refl _)
      | (with_reducible exact LeO.none _)
      | (with_reducible refine LeO.ite ?_ ?_)
      | (with_reducible refine LeO.bind ?_ (fun _ => ?_))
      | exact ih0 _ _ _ _ _ _ _ _ _ _ _
      | exact ih1 _ _ _ _ _ _ _ _ _ _ _ _ _ _
      | exact ih2 _ _ _ _ _ _ _ _ _ _ _ _ _
      | exact ih3 _ _ _ _ _ _ _ _ _ _ _ _ _ _
      | exact exact_Ask.mono _ _ _ _ _ _ _ _ _ _ _
      | exact exact_Ends.mono _ _ _ _ _ _ _ _ _
      | exact exact_May.mono _ _ _ _ _ _ _ _ _
      | exact exact_Total.mono _ _ _ _ _ _ _ _ _ _
      | exact sandglasslaw13_live.mono _
      | exact sandglassref13_May.mono _ _ _ _ _ _ _ _ _
      | exact LeO.none _
      | refine LeO.ite ?_ ?_
      | refine LeO.bind ?_ (fun _ => ?_)
    · intro y0 y1 y2 y3 y4 y5 y6 y7 y8 y9 y10 y11 y12 y13
      unfold sandglasslaw13_ExactMay.j3
      repeat' first
      | (with_reducible exact ih0 _ _ _ _ _ _ _ _ _ _ _)
      | (with_reducible exact ih1 _ _ _ _ _ _ _ _ _ _ _ _ _ _)
      | (with_reducible exact ih2 _ _ _ _ _ _ _ _ _ _ _ _ _)
      | (with_reducible exact ih3 _ _ _ _ _ _ _ _ _ _ _ _ _ _)
      | (with_reducible exact exact_Ask.mono _ _ _ _ _ _ _ _ _ _ _)
      | (with_reducible exact exact_Ends.mono _ _ _ _ _ _ _ _ _)
      | (with_reducible exact exact_May.mono _ _ _ _ _ _ _ _ _)
      | (with_reducible exact exact_Total.mono _ _ _ _ _ _ _ _ _ _)
      | (with_reducible exact sandglasslaw13_live.mono _)
      | (with_reducible exact sandglassref13_May.mono _ _ _ _ _ _ _ _ _)
      | (with_reducible exact LeO.refl _)
      | (with_reducible exact LeO.none _)
      | (with_reducible refine LeO.ite ?_ ?_)
      | (with_reducible refine LeO.bind ?_ (fun _ => ?_))
      | exact ih0 _ _ _ _ _ _ _ _ _ _ _
      | exact ih1 _ _ _ _ _ _ _ _ _ _ _ _ _ _
      | exact ih2 _ _ _ _ _ _ _ _ _ _ _ _ _
      | exact ih3 _ _ _ _ _ _ _ _ _ _ _ _ _ _
      | exact exact_Ask.mono _ _ _ _ _ _ _ _ _ _ _
      | exact exact_Ends.mono _ _ _ _ _ _ _ _ _
      | exact exact_May.mono _ _ _ _ _ _ _ _ _
      | exact exact_Total.mono _ _ _ _ _ _ _ _ _ _
      | exact sandglasslaw13_live.mono _
      | exact sandglassref13_May.mono _ _ _ _ _ _ _ _ _
      | exact LeO.none _
      | refine LeO.ite ?_ ?_
      | refine LeO.bind ?_ (fun _ => ?_)
theorem sandglasslaw13_ExactMay.mono : ∀ a0 a1 a2 a3 a4 a5 a6 a7 a8 a9 k, LeO (sandglasslaw13_ExactMay.f k a0 a1 a2 a3 a4 a5 a6 a7 a8 a9) (sandglasslaw13_ExactMay.f (k + 1) a0 a1 a2 a3 a4 a5 a6 a7 a8 a9) := by
  intro a0 a1 a2 a3 a4 a5 a6 a7 a8 a9 k
  obtain ⟨ih0, ih1, ih2, ih3⟩ := sandglasslaw13_ExactMay.mono_l k
  unfold sandglasslaw13_ExactMay.f
  repeat' first
      | (with_reducible exact ih0 _ _ _ _ _ _ _ _ _ _ _)
      | (with_reducible exact ih1 _ _ _ _ _ _ _ _ _ _ _ _ _ _)
      | (with_reducible exact ih2 _ _ _ _ _ _ _ _ _ _ _ _ _)
      | (with_reducible exact ih3 _ _ _ _ _ _ _ _ _ _ _ _ _ _)
      | (with_reducible exact exact_Ask.mono _ _ _ _ _ _ _ _ _ _ _)
      | (with_reducible exact exact_Ends.mono _ _ _ _ _ _ _ _ _)
      | (with_reducible exact exact_May.mono _ _ _ _ _ _ _ _ _)
      | (with_reducible exact exact_Total.mono _ _ _ _ _ _ _ _ _ _)
      | (with_reducible exact sandglasslaw13_live.mono _)
      | (with_reducible exact sandglassref13_May.mono _ _ _ _ _ _ _ _ _)
      | (with_reducible exact LeO.refl _)
      | (with_reducible exact LeO.none _)
      | (with_reducible refine LeO.ite ?_ ?_)
      | (with_reducible refine LeO.bind ?_ (fun _ => ?_))
      | exact ih0 _ _ _ _ _ _ _ _ _ _ _
      | exact ih1 _ _ _ _ _ _ _ _ _ _ _ _ _ _
      | exact ih2 _ _ _ _ _ _ _ _ _ _ _ _ _
      | exact ih3 _ _ _ _ _ _ _ _ _ _ _ _ _ _
      | exact exact_Ask.mono _ _ _ _ _ _ _ _ _ _ _
      | exact exact_Ends.mono _ _ _ _ _ _ _ _ _
      | exact exact_May.mono _ _ _ _ _ _ _ _ _
      | exact exact_Total.mono _ _ _ _ _ _ _ _ _ _
      | exact sandglasslaw13_live.mono _
      | exact sandglassref13_May.mono _ _ _ _ _ _ _ _ _
      | exact LeO.none _
      | refine LeO.ite ?_ ?_
      | refine LeO.bind ?_ (fun _ => ?_)
def sandglasslaw13_ExactMay.T5 : Bool × List (List Nat × List Nat) := (true, [([], []), ([], []), ([0, 1], [0, 1]), ([2], [2]), ([3, 2], [3]), ([4], [4]), ([5, 4], [4, 5]), ([4], [4]), ([4], [4]), ([8, 4], [4, 8]), ([7, 9, 4], [4, 7, 9]), ([6, 10, 4], [4, 6, 10]), ([4, 11], [4, 11]), ([12, 4], [12]), ([13], [13]), ([14, 13], [13, 14]), ([13], [13]), ([16, 13], [13, 16]), ([13], [13]), ([13], [13]), ([13], [13]), ([20, 13], [13, 20]), ([18, 19, 21, 13, 13], [13, 18, 19, 21]), ([17, 22, 13], [13, 17, 22]), ([15, 23, 13], [13, 15, 23]), ([13, 24], [13, 24]), ([25, 22], [25]), ([26], [26]), ([27, 26], [26, 27]), ([28, 26], [26, 28]), ([26, 29], [26, 29])])
def sandglasslaw13_ExactMay.B5 : List Nat := [0, 0, 3, 7, 15, 31, 63, 31, 31, 287, 927, 2047, 4095, 8191, 16383, 32767, 16383, 81919, 16383, 16383, 16383, 1064959, 3948543, 8339455, 16777215, 33554431, 67108863, 134217727, 268435455, 536870911, 1073741823]
theorem sandglasslaw13_ExactMay.tab5 : rtab .any (opsOf Try.f4 5) = sandglasslaw13_ExactMay.T5 := by kernel_rfl
theorem sandglasslaw13_ExactMay.bits5 : waitsOk sandglasslaw13_ExactMay.T5.2 sandglasslaw13_ExactMay.B5 = true := by kernel_rfl
def sandglasslaw13_ExactMay.T11 : Bool × List (List Nat × List Nat) := (true, [([], []), ([], []), ([], []), ([2], [2]), ([], []), ([4], [4]), ([3, 5], [3, 5]), ([0, 1, 6], [0, 1, 6]), ([7], [7]), ([8, 7], [8]), ([9], [9]), ([10, 9], [9, 10]), ([11, 9], [9, 11]), ([12, 9, 9], [9, 12]), ([13], [13]), ([13], [13]), ([13], [13]), ([16, 13], [13, 16]), ([13], [13]), ([18, 13], [13, 18]), ([17, 19, 13], [13, 17, 19]), ([20, 13], [13, 20]), ([14, 15, 21, 13, 13], [13, 14, 15, 21]), ([22, 13], [13, 22]), ([13, 23, 9], [9, 13, 23]), ([9, 24], [9, 24]), ([25, 22], [25]), ([26], [26]), ([26], [26]), ([27, 28, 26, 26], [26, 27, 28]), ([26], [26]), ([30, 26], [26, 30]), ([26], [26]), ([32, 26], [26, 32]), ([31, 33, 26], [26, 31, 33]), ([29, 34, 26], [26, 29, 34]), ([26, 35], [26, 35])])
def sandglasslaw13_ExactMay.B11 : List Nat := [0, 0, 0, 4, 0, 16, 60, 127, 255, 511, 1023, 2047, 4095, 8191, 16383, 16383, 16383, 81919, 16383, 278527, 999423, 2047999, 4194303, 8388607, 16777215, 33554431, 67108863, 134217727, 134217727, 536870911, 134217727, 1207959551, 134217727, 4429185023, 16240345087, 34359738367, 68719476735]
theorem sandglasslaw13_ExactMay.tab11 : rtab .any (opsOf Try.f4 11) = sandglasslaw13_ExactMay.T11 := by kernel_rfl
theorem sandglasslaw13_ExactMay.bits11 : waitsOk sandglasslaw13_ExactMay.T11.2 sandglasslaw13_ExactMay.B11 = true := by kernel_rfl
end Go.Proofs.Ytempbjcmhillgaa.Q
