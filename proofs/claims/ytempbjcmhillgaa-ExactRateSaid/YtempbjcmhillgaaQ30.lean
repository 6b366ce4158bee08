-- Laid by wip/tools/hprint.py, a program of this repo, over the kit's print; not a text of print.sh.
import Derived.Test.YtempbjcmhillgaaQ0
import Derived.Test.YtempbjcmhillgaaQ13
import Derived.Test.YtempbjcmhillgaaQ16
import Derived.Test.YtempbjcmhillgaaQ17
import Derived.Test.YtempbjcmhillgaaQ20
namespace Go.Proofs.Ytempbjcmhillgaa.Q
open Go.RowKit Go.Proofs.Ytempbjcmhillgaa.Zip Go.Proofs.YtempbjcmhillgaaW.PrintWords Go.Proofs.YtempbjcmhillgaaW.PrintLast Go.Proofs.YtempbjcmhillgaaW.PrintMore
attribute [local go_sem] max2_int min2_int max_two min_two max_three min_three max_four min_four   -- for this text's walks alone
set_option linter.unusedVariables false
set_option linter.unusedSimpArgs false

/-! ### sandglasslaw13_ExactRate: function 6 -/
mutual
def sandglasslaw13_ExactRate.j0 : Nat → List (S45) → Bool → Int → Int → Int → Int → Option (Bool)
  | 0, _, _, _, _, _, _ => none
  | k + 1, x1, x26, x482000, x482001, x482002, x482003 => if x26 = true then ((sandglasslaw13_live.f k).bind fun t483 => (some t483)) else (sandglasslaw13_ExactRate.l0 k x1 0 ([] : List Int) ([] : List Int) 0 x482000 x482001 x482002 x482003 0 0 ([] : List Int) ([] : List (S50)))
def sandglasslaw13_ExactRate.l0 : Nat → List (S45) → Int → List Int → List Int → Int → Int → Int → Int → Int → Int → Int → List Int → List (S50) → Option (Bool)
  | 0, _, _, _, _, _, _, _, _, _, _, _, _, _ => none
  | k + 1, x1, x6, x7, x8, x9, x482000, x482001, x482002, x482003, x485000, x485001, x485002, x485003 => if x9 < (x1.length : Int) then (if 0 ≤ x9 then (if ((rd_T45 x1 x9).f0) < 0 then (sandglasslaw13_ExactRate.j2 k x1 x6 x7 x8 x9 true x482000 x482001 x482002 x482003 x485000 x485001 x485002 x485003) else (if ((rd_T45 x1 x9).f0) > 1048576 then (sandglasslaw13_ExactRate.j2 k x1 x6 x7 x8 x9 true x482000 x482001 x482002 x482003 x485000 x485001 x485002 x485003) else ((sandglassref09_Weighs.f ((rd_T45 x1 x9).f1)).bind fun t488 => (sandglasslaw13_ExactRate.j2 k x1 x6 x7 x8 x9 (!t488) x482000 x482001 x482002 x482003 x485000 x485001 x485002 x485003)))) else (none)) else ((sandglasslaw13_live.f k).bind fun t520 => (some t520))
def sandglasslaw13_ExactRate.j2 : Nat → List (S45) → Int → List Int → List Int → Int → Bool → Int → Int → Int → Int → Int → Int → List Int → List (S50) → Option (Bool)
  | 0, _, _, _, _, _, _, _, _, _, _, _, _, _, _ => none
  | k + 1, x1, x6, x7, x8, x9, x57, x482000, x482001, x482002, x482003, x485000, x485001, x485002, x485003 => if x57 = true then ((sandglasslaw13_live.f k).bind fun t489 => (some t489)) else (if 0 ≤ x9 then (if x9 < (x1.length : Int) then (sandglasslaw13_ExactRate.l1 k x1 (wrap64 (x6 + ((rd_T45 x1 x9).f0))) x7 x8 x9 0 0 x482000 x482001 x482002 x482003 x485000 x485001 x485002 x485003) else (none)) else (none))
def sandglasslaw13_ExactRate.l1 : Nat → List (S45) → Int → List Int → List Int → Int → Int → Int → Int → Int → Int → Int → Int → Int → List Int → List (S50) → Option (Bool)
  | 0, _, _, _, _, _, _, _, _, _, _, _, _, _, _, _ => none
  | k + 1, x1, x6, x7, x8, x9, x10, x11, x482000, x482001, x482002, x482003, x485000, x485001, x485002, x485003 => if x11 < x9 then (if 0 ≤ x11 then (if x11 < (x7.length : Int) then (if (rd x7 x11) > (wrap64 (x6 - x482002)) then (if x11 < (x8.length : Int) then (sandglasslaw13_ExactRate.l1 k x1 x6 x7 x8 x9 (wrap64 (x10 + (rd x8 x11))) (wrap64 (x11 + 1)) x482000 x482001 x482002 x482003 x485000 x485001 x485002 x485003) else (none)) else (sandglasslaw13_ExactRate.l1 k x1 x6 x7 x8 x9 x10 (wrap64 (x11 + 1)) x482000 x482001 x482002 x482003 x485000 x485001 x485002 x485003)) else (none)) else (none)) else (if 0 ≤ x9 then (if x9 < (x1.length : Int) then ((exact_Ask.f k x482000 x482001 x482002 x482003 x485000 x485001 x485002 x485003 x6 ((rd_T45 x1 x9).f1)).bind fun bt494 => (if x7.length < 17592186044416 then ((some (x7 ++ [x6] : List Int)).bind fun y508 => (if (bt494.2.2.2.2.1 != (decide ((wrap64 (x10 + ((rd_T45 x1 x9).f1))) ≤ x482001))) = true then (none) else (if bt494.2.2.2.2.1 = true then (if x8.length < 17592186044416 then (sandglasslaw13_ExactRate.j4 k x1 x6 y508 (x8 ++ [(rd_T45 x1 x9).f1]) x9 (wrap64 (x10 + ((rd_T45 x1 x9).f1))) x482000 x482001 x482002 x482003 bt494.1 bt494.2.1 bt494.2.2.1 bt494.2.2.2.1 bt494.2.2.2.2.1 bt494.2.2.2.2.2.1 bt494.2.2.2.2.2.2.1 bt494.2.2.2.2.2.2.2) else (none)) else (if x8.length < 17592186044416 then (sandglasslaw13_ExactRate.j4 k x1 x6 y508 (x8 ++ [0]) x9 x10 x482000 x482001 x482002 x482003 bt494.1 bt494.2.1 bt494.2.2.1 bt494.2.2.2.1 bt494.2.2.2.2.1 bt494.2.2.2.2.2.1 bt494.2.2.2.2.2.2.1 bt494.2.2.2.2.2.2.2) else (none))))) else (none))) else (none)) else (none))
def sandglasslaw13_ExactRate.j4 : Nat → List (S45) → Int → List Int → List Int → Int → Int → Int → Int → Int → Int → Int → Int → List Int → List (S50) → Bool → Int → Int → Int → Option (Bool)
  | 0, _, _, _, _, _, _, _, _, _, _, _, _, _, _, _, _, _, _ => none
  | k + 1, x1, x6, x7, x8, x9, x10, x482000, x482001, x482002, x482003, x485000, x485001, x485002, x485003, x508000, x508001, x508002, x508003 => if x508001 = (wrap64 (x482001 - x10)) then (if x10 > x482001 then (sandglasslaw13_ExactRate.j5 k x1 x6 x7 x8 x9 true x482000 x482001 x482002 x482003 x485000 x485001 x485002 x485003) else (sandglasslaw13_ExactRate.j5 k x1 x6 x7 x8 x9 (decide ((x485003.length : Int) > 16)) x482000 x482001 x482002 x482003 x485000 x485001 x485002 x485003)) else (sandglasslaw13_ExactRate.j5 k x1 x6 x7 x8 x9 true x482000 x482001 x482002 x482003 x485000 x485001 x485002 x485003)
def sandglasslaw13_ExactRate.j5 : Nat → List (S45) → Int → List Int → List Int → Int → Bool → Int → Int → Int → Int → Int → Int → List Int → List (S50) → Option (Bool)
  | 0, _, _, _, _, _, _, _, _, _, _, _, _, _, _ => none
  | k + 1, x1, x6, x7, x8, x9, x154, x482000, x482001, x482002, x482003, x485000, x485001, x485002, x485003 => if x154 = true then (none) else (sandglasslaw13_ExactRate.l0 k x1 x6 x7 x8 (wrap64 (x9 + 1)) x482000 x482001 x482002 x482003 x485000 x485001 x485002 x485003)
end
def sandglasslaw13_ExactRate.f (k : Nat) (a0_0 : Int) (a0_1 : Int) (a0_2 : Int) (a0_3 : Int) (l1 : List (S45)) : Option (Bool) := if (l1.length : Int) > 40 then (sandglasslaw13_ExactRate.j0 k l1 true a0_0 a0_1 a0_2 a0_3) else ((sandglassref09_Check.f k a0_0 a0_1 a0_2 a0_3).bind fun t482 => (if t482 = 0 then (sandglasslaw13_ExactRate.j0 k l1 (a0_0 != 4) a0_0 a0_1 a0_2 a0_3) else (sandglasslaw13_ExactRate.j0 k l1 true a0_0 a0_1 a0_2 a0_3)))
theorem sandglasslaw13_ExactRate.mono_l : ∀ k, (∀ y0 y1 y2 y3 y4 y5, LeO (sandglasslaw13_ExactRate.j0 k y0 y1 y2 y3 y4 y5) (sandglasslaw13_ExactRate.j0 (k + 1) y0 y1 y2 y3 y4 y5)) ∧ (∀ y0 y1 y2 y3 y4 y5 y6 y7 y8 y9 y10 y11 y12, LeO (sandglasslaw13_ExactRate.l0 k y0 y1 y2 y3 y4 y5 y6 y7 y8 y9 y10 y11 y12) (sandglasslaw13_ExactRate.l0 (k + 1) y0 y1 y2 y3 y4 y5 y6 y7 y8 y9 y10 y11 y12)) ∧ (∀ y0 y1 y2 y3 y4 y5 y6 y7 y8 y9 y10 y11 y12 y13, LeO (sandglasslaw13_ExactRate.j2 k y0 y1 y2 y3 y4 y5 y6 y7 y8 y9 y10 y11 y12 y13) (sandglasslaw13_ExactRate.j2 (k + 1) y0 y1 y2 y3 y4 y5 y6 y7 y8 y9 y10 y11 y12 y13)) ∧ (∀ y0 y1 y2 y3 y4 y5 y6 y7 y8 y9 y10 y11 y12 y13 y14, LeO (sandglasslaw13_ExactRate.l1 k y0 y1 y2 y3 y4 y5 y6 y7 y8 y9 y10 y11 y12 y13 y14) (sandglasslaw13_ExactRate.l1 (k + 1) y0 y1 y2 y3 y4 y5 y6 y7 y8 y9 y10 y11 y12 y13 y14)) ∧ (∀ y0 y1 y2 y3 y4 y5 y6 y7 y8 y9 y10 y11 y12 y13 y14 y15 y16 y17, LeO (sandglasslaw13_ExactRate.j4 k y0 y1 y2 y3 y4 y5 y6 y7 y8 y9 y10 y11 y12 y13 y14 y15 y16 y17) (sandglasslaw13_ExactRate.j4 (k + 1) y0 y1 y2 y3 y4 y5 y6 y7 y8 y9 y10 y11 y12 y13 y14 y15 y16 y17)) ∧ (∀ y0 y1 y2 y3 y4 y5 y6 y7 y8 y9 y10 y11 y12 y13, LeO (sandglasslaw13_ExactRate.j5 k y0 y1 y2 y3 y4 y5 y6 y7 y8 y9 y10 y11 y12 y13) (sandglasslaw13_ExactRate.j5 (k + 1) y0 y1 y2 y3 y4 y5 y6 y7 y8 y9 y10 y11 y12 y13))
  | 0 => ⟨fun _ _ _ _ _ _ r h => by simp [sandglasslaw13_ExactRate.j0] at h, fun _ _ _ _ _ _ _ _ _ _ _ _ _ r h => by simp [sandglasslaw13_ExactRate.l0] at h, fun _ _ _ _ _ _ _ _ _ _ _ _ _ _ r h => by simp [sandglasslaw13_ExactRate.j2] at h, fun _ _ _ _ _ _ _ _ _ _ _ _ _ _ _ r h => by simp [sandglasslaw13_ExactRate.l1] at h, fun _ _ _ _ _ _ _ _ _ _ _ _ _ _ _ _ _ _ r h => by simp [sandglasslaw13_ExactRate.j4] at h, fun _ _ _ _ _ _ _ _ _ _ _ _ _ _ r h => by simp [sandglasslaw13_ExactRate.j5] at h⟩
  | k + 1 => by
    obtain ⟨ih0, ih1, ih2, ih3, ih4, ih5⟩ := sandglasslaw13_ExactRate.mono_l k
    refine ⟨?_, ?_, ?_, ?_, ?_, ?_⟩
    · intro y0 y1 y2 y3 y4 y5
      unfold sandglasslaw13_ExactRate.j0
      repeat' first
      | (with_reducible exact ih0 _ _ _ _ _ _)
      | (with_reducible exact ih1 _ _ _ _ _ _ _ _ _ _ _ _ _)
      | (with_reducible exact ih2 _ _ _ _ _ _ _ _ _ _ _ _ _ _)
      | (with_reducible exact ih3 _ _ _ _ _ _ _ _ _ _ _ _ _ _ _)
      | (with_reducible exact ih4 _ _ _ _ _ _ _ _ _ _ _ _ _ _ _ _ _ _)
      | (with_reducible exact ih5 _ _ _ _ _ _ _ _ _ _ _ _ _ _)
      | (with_reducible exact exact_Ask.mono _ _ _ _ _ _ _ _ _ _ _)
      | (with_reducible exact sandglasslaw13_live.mono _)
      | (with_reducible exact sandglassref09_Check.mono _ _ _ _ _)
      | (with_reducible exact LeO.refl _)
      | (with_reducible exact LeO.none _)
      | (with_reducible refine LeO.ite ?_ ?_)
      | (with_reducible refine LeO.bind ?_ (fun _ => ?_))
      | exact ih0 _ _ _ _ _ _
      | exact ih1 _ _ _ _ _ _ _ _ _ _ _ _ _
      | exact ih2 _ _ _ _ _ _ _ _ _ _ _ _ _ _
      | exact ih3 _ _ _ _ _ _ _ _ _ _ _ _ _ _ _
      | exact ih4 _ _ _ _ _ _ _ _ _ _ _ _ _ _ _ _ _ _
      | exact ih5 _ _ _ _ _ _ _ _ _ _ _ _ _ _
      | exact exact_Ask.mono _ _ _ _ _ _ _ _ _ _ _
      | exact sandglasslaw13_live.mono _
      | exact sandglassref09_Check.mono _ _ _ _ _
      | exact LeO.none _
      | refine LeO.ite ?_ ?_
      | refine LeO.bind ?_ (fun _ => ?_)
    · intro y0 y1 y2 y3 y4 y5 y6 y7 y8 y9 y10 y11 y12
      unfold sandglasslaw13_ExactRate.l0
      repeat' first
      | (with_reducible exact ih0 _ _ _ _ _ _)
      | (with_reducible exact ih1 _ _ _ _ _ _ _ _ _ _ _ _ _)
      | (with_reducible exact ih2 _ _ _ _ _ _ _ _ _ _ _ _ _ _)
      | (with_reducible exact ih3 _ _ _ _ _ _ _ _ _ _ _ _ _ _ _)
      | (with_reducible exact ih4 _ _ _ _ _ _ _ _ _ _ _ _ _ _ _ _ _ _)
      | (with_reducible exact ih5 _ _ _ _ _ _ _ _ _ _ _ _ _ _)
      | (with_reducible exact exact_Ask.mono _ _ _ _ _ _ _ _ _ _ _)
      | (with_reducible exact sandglasslaw13_live.mono _)
      | (with_reducible exact sandglassref09_Check.mono _ _ _ _ _)
      | (with_reducible exact LeO.refl _)
      | (with_reducible exact LeO.none _)
      | (with_reducible refine LeO.ite ?_ ?_)
      | (with_reducible refine LeO.bind ?_ (fun _ => ?_))
      | exact ih0 _ _ _ _ _ _
      | exact ih1 _ _ _ _ _ _ _ _ _ _ _ _ _
      | exact ih2 _ _ _ _ _ _ _ _ _ _ _ _ _ _
      | exact ih3 _ _ _ _ _ _ _ _ _ _ _ _ _ _ _
      | exact ih4 _ _ _ _ _ _ _ _ _ _ _ _ _ _ _ _ _ _
      | exact ih5 _ _ _ _ _ _ _ _ _ _ _ _ _ _
      | exact exact_Ask.mono _ _ _ _ _ _ _ _ _ _ _
      | exact sandglasslaw13_live.mono _
      | exact sandglassref09_Check.mono _ _ _ _ _
      | exact LeO.none _
      | refine LeO.ite ?_ ?_
      | refine LeO.bind ?_ (fun _ => ?_)
    · intro y0 y1 y2 y3 y4 y5 y6 y7 y8 y9 y10 y11 y12 y13
      unfold sandglasslaw13_ExactRate.j2
      repeat' first
      | (with_reducible exact ih0 _ _ _ _ _ _)
      | (with_reducible exact ih1 _ _ _ _ _ _ _ _ _ _ _ _ _)
      | (with_reducible exact ih2 _ _ _ _ _ _ _ _ _ _ _ _ _ _)
      | (with_reducible exact ih3 _ _ _ _ _ _ _ _ _ _ _ _ _ _ _)
      | (with_reducible exact ih4 _ _ _ _ _ _ _ _ _ _ _ _ _ _ _ _ _ _)
      | (with_reducible exact ih5 _ _ _ _ _ _ _ _ _ _ _ _ _ _)
      | (with_reducible exact exact_Ask.mono _ _ _ _ _ _ _ _ _ _ _)
      | (with_reducible exact sandglasslaw13_live.mono _)
      | (with_reducible exact sandglassref09_Check.mono _ _ _ _ _)
      | (with_reducible exact LeO.refl _)
      | (with_reducible exact LeO.none _)
      | (with_reducible refine LeO.ite ?_ ?_)
      | (with_reducible refine LeO.bind ?_ (fun _ => ?_))
      | exact ih0 _ _ _ _ _ _
      | exact ih1 _ _ _ _ _ _ _ _ _ _ _ _ _
      | exact ih2 _ _ _ _ _ _ _ _ _ _ _ _ _ _
      | exact ih3 _ _ _ _ _ _ _ _ _ _ _ _ _ _ _
      | exact ih4 _ _ _ _ _ _ _ _ _ _ _ _ _ _ _ _ _ _
      | exact ih5 _ _ _ _ _ _ _ _ _ _ _ _ _ _
      | exact exact_Ask.mono _ _ _ _ _ _ _ _ _ _ _
      | exact sandglasslaw13_live.mono _
      | exact sandglassref09_Check.mono _ _ _ _ _
      | exact LeO.none _
      | refine LeO.ite ?_ ?_
      | refine LeO.bind ?_ (fun _ => ?_)
    · intro y0 y1 y2 y3 y4 y5 y6 y7 y8 y9 y10 y11 y12 y13 y14
      unfold sandglasslaw13_ExactRate.l1
      repeat' first
      | (with_reducible exact ih0 _ _ _ _ _ _)
      | (with_reducible exact ih1 _ _ _ _ _ _ _ _ _ _ _ _ _)
      | (with_reducible exact ih2 _ _ _ _ _ _ _ _ _ _ _ _ _ _)
      | (with_reducible exact ih3 _ _ _ _ _ _ _ _ _ _ _ _ _ _ _)
      | (with_reducible exact ih4 _ _ _ _ _ _ _ _ _ _ _ _ _ _ _ _ _ _)
      | (with_reducible exact ih5 _ _ _ _ _ _ _ _ _ _ _ _ _ _)
      | (with_reducible exact exact_Ask.mono _ _ _ _ _ _ _ _ _ _ _)
      | (with_reducible exact sandglasslaw13_live.mono _)
      | (with_reducible exact sandglassref09_Check.mono _ _ _ _ _)
      | (with_reducible exact LeO.refl _)
      | (with_reducible exact LeO.none _)
      | (with_reducible refine LeO.ite ?_ ?_)
      | (with_reducible refine LeO.bind ?_ (fun _ => ?_))
      | exact ih0 _ _ _ _ _ _
      | exact ih1 _ _ _ _ _ _ _ _ _ _ _ _ _
      | exact ih2 _ _ _ _ _ _ _ _ _ _ _ _ _ _
      | exact ih3 _ _ _ _ _ _ _ _ _ _ _ _ _ _ _
      | exact ih4 _ _ _ _ _ _ _ _ _ _ _ _ _ _ _ _ _ _
      | exact ih5 _ _ _ _ _ _ _ _ _ _ _ _ _ _
      | exact exact_Ask.mono _ _ _ _ _ _ _ _ _ _ _
      | exact sandglasslaw13_live.mono _
      | exact sandglassref09_Check.mono _ _ _ _ _
      | exact LeO.none _
      | refine LeO.ite ?_ ?_
      | refine LeO.bind ?_ (fun _ => ?_)
    · intro y0 y1 y2 y3 y4 y5 y6 y7 y8 y9 y10 y11 y12 y13 y14 y15 y16 y17
      unfold sandglasslaw13_ExactRate.j4
      repeat' first
      | (with_reducible exact ih0 _ _ _ _ _ _)
      | (with_reducible exact ih1 _ _ _ _ _ _ _ _ _ _ _ _ _)
      | (with_reducible exact ih2 _ _ _ _ _ _ _ _ _ _ _ _ _ _)
      | (with_reducible exact ih3 _ _ _ _ _ _ _ _ _ _ _ _ _ _ _)
      | (with_reducible exact ih4 _ _ _ _ _ _ _ _ _ _ _ _ _ _ _ _ _ _)
      | (with_reducible exact ih5 _ _ _ _ _ _ _ _ _ _ _ _ _ _)
      | (with_reducible exact exact_Ask.mono _ _ _ _ _ _ _ _ _ _ _)
      | (with_reducible exact sandglasslaw13_live.mono _)
      | (with_reducible exact sandglassref09_Check.mono _ _ _ _ _)
      | (with_reducible exact LeO.refl _)
      | (with_reducible exact LeO.none _)
      | (with_reducible refine LeO.ite ?_ ?_)
      | (with_reducible refine LeO.bind ?_ (fun _ => ?_))
      | exact ih0 _ _ _ _ _ _
      | exact ih1 _ _ _ _ _ _ _ _ _ _ _ _ _
      | exact ih2 _ _ _ _ _ _ _ _ _ _ _ _ _ _
      | exact ih3 _ _ _ _ _ _ _ _ _ _ _ _ _ _ _
      | exact ih4 _ _ _ _ _ _ _ _ _ _ _ _ _ _ _ _ _ _
      | exact ih5 _ _ _ _ _ _ _ _ _ _ _ _ _ _
      | exact exact_Ask.mono _ _ _ _ _ _ _ _ _ _ _
      | exact sandglasslaw13_live.mono _
      | exact sandglassref09_Check.mono _ _ _ _ _
      | exact LeO.none _
      | refine LeO.ite ?_ ?_
      | refine LeO.bind ?_ (fun _ => ?_)
    · intro y0 y1 y2 y3 y4 y5 y6 y7 y8 y9 y10 y11 y12 y13
      unfold sandglasslaw13_ExactRate.j5
      repeat' first
      | (with_reducible exact ih0 _ _ _ _ _ _)
      | (with_reducible exact ih1 _ _ _ _ _ _ _ _ _ _ _ _ _)
      | (with_reducible exact ih2 _ _ _ _ _ _ _ _ _ _ _ _ _ _)
      | (with_reducible exact ih3 _ _ _ _ _ _ _ _ _ _ _ _ _ _ _)
      | (with_reducible exact ih4 _ _ _ _ _ _ _ _ _ _ _ _ _ _ _ _ _ _)
      | (with_reducible exact ih5 _ _ _ _ _ _ _ _ _ _ _ _ _ _)
      | (with_reducible exact exact_Ask.mono _ _ _ _ _ _ _ _ _ _ _)
      | (with_reducible exact sandglasslaw13_live.mono _)
      | (with_reducible exact sandglassref09_Check.mono _ _ _ _ _)
      | (with_reducible exact LeO.refl _)
      | (with_reducible exact LeO.none _)
      | (with_reducible refine LeO.ite ?_ ?_)
      | (with_reducible refine LeO.bind ?_ (fun _ => ?_))
      | exact ih0 _ _ _ _ _ _
      | exact ih1 _ _ _ _ _ _ _ _ _ _ _ _ _
      | exact ih2 _ _ _ _ _ _ _ _ _ _ _ _ _ _
      | exact ih3 _ _ _ _ _ _ _ _ _ _ _ _ _ _ _
      | exact ih4 _ _ _ _ _ _ _ _ _ _ _ _ _ _ _ _ _ _
      | exact ih5 _ _ _ _ _ _ _ _ _ _ _ _ _ _
      | exact exact_Ask.mono _ _ _ _ _ _ _ _ _ _ _
      | exact sandglasslaw13_live.mono _
      | exact sandglassref09_Check.mono _ _ _ _ _
      | exact LeO.none _
      | refine LeO.ite ?_ ?_
      | refine LeO.bind ?_ (fun _ => ?_)
theorem sandglasslaw13_ExactRate.mono : ∀ a0 a1 a2 a3 a4 k, LeO (sandglasslaw13_ExactRate.f k a0 a1 a2 a3 a4) (sandglasslaw13_ExactRate.f (k + 1) a0 a1 a2 a3 a4) := by
  intro a0 a1 a2 a3 a4 k
  obtain ⟨ih0, ih1, ih2, ih3, ih4, ih5⟩ := sandglasslaw13_ExactRate.mono_l k
  unfold sandglasslaw13_ExactRate.f
  repeat' first
      | (with_reducible exact ih0 _ _ _ _ _ _)
      | (with_reducible exact ih1 _ _ _ _ _ _ _ _ _ _ _ _ _)
      | (with_reducible exact ih2 _ _ _ _ _ _ _ _ _ _ _ _ _ _)
      | (with_reducible exact ih3 _ _ _ _ _ _ _ _ _ _ _ _ _ _ _)
      | (with_reducible exact ih4 _ _ _ _ _ _ _ _ _ _ _ _ _ _ _ _ _ _)
      | (with_reducible exact ih5 _ _ _ _ _ _ _ _ _ _ _ _ _ _)
      | (with_reducible exact exact_Ask.mono _ _ _ _ _ _ _ _ _ _ _)
      | (with_reducible exact sandglasslaw13_live.mono _)
      | (with_reducible exact sandglassref09_Check.mono _ _ _ _ _)
      | (with_reducible exact LeO.refl _)
      | (with_reducible exact LeO.none _)
      | (with_reducible refine LeO.ite ?_ ?_)
      | (with_reducible refine LeO.bind ?_ (fun _ => ?_))
      | exact ih0 _ _ _ _ _ _
      | exact ih1 _ _ _ _ _ _ _ _ _ _ _ _ _
      | exact ih2 _ _ _ _ _ _ _ _ _ _ _ _ _ _
      | exact ih3 _ _ _ _ _ _ _ _ _ _ _ _ _ _ _
      | exact ih4 _ _ _ _ _ _ _ _ _ _ _ _ _ _ _ _ _ _
      | exact ih5 _ _ _ _ _ _ _ _ _ _ _ _ _ _
      | exact exact_Ask.mono _ _ _ _ _ _ _ _ _ _ _
      | exact sandglasslaw13_live.mono _
      | exact sandglassref09_Check.mono _ _ _ _ _
      | exact LeO.none _
      | refine LeO.ite ?_ ?_
      | refine LeO.bind ?_ (fun _ => ?_)
def sandglasslaw13_ExactRate.T17 : Bool × List (List Nat × List Nat) := (true, [([], []), ([], []), ([0, 1], [0, 1]), ([2], [2]), ([], []), ([], []), ([5], [5]), ([4, 6], [4, 6]), ([3, 7], [3, 7])])
def sandglasslaw13_ExactRate.B17 : List Nat := [0, 0, 3, 7, 0, 0, 32, 112, 255]
theorem sandglasslaw13_ExactRate.tab17 : rtab .any (opsOf Try.f6 17) = sandglasslaw13_ExactRate.T17 := by kernel_rfl
theorem sandglasslaw13_ExactRate.bits17 : waitsOk sandglasslaw13_ExactRate.T17.2 sandglasslaw13_ExactRate.B17 = true := by kernel_rfl
def sandglasslaw13_ExactRate.T19 : Bool × List (List Nat × List Nat) := (true, [([], []), ([], []), ([], []), ([], []), ([], []), ([3, 4], [3, 4]), ([5], [5]), ([6], [6]), ([0, 1, 2, 7], [0, 1, 2, 7]), ([8], [8]), ([9], [9]), ([9], [9]), ([], []), ([], []), ([12, 10, 8, 0, 1, 2, 3, 4, 5, 6, 7, 8, 9, 10, 12, 13], [10, 12]), ([13, 11, 14, 0, 1, 2, 3, 4, 5, 6, 7, 8, 9, 10, 11, 12, 13, 14], [11, 13])])
def sandglasslaw13_ExactRate.B19 : List Nat := [0, 0, 0, 0, 0, 24, 56, 120, 255, 511, 1023, 1023, 0, 0, 14335, 32767]
theorem sandglasslaw13_ExactRate.tab19 : rtab .any (opsOf Try.f6 19) = sandglasslaw13_ExactRate.T19 := by kernel_rfl
theorem sandglasslaw13_ExactRate.bits19 : waitsOk sandglasslaw13_ExactRate.T19.2 sandglasslaw13_ExactRate.B19 = true := by kernel_rfl
def sandglasslaw13_ExactRate.T22 : Bool × List (List Nat × List Nat) := (true, [([], []), ([0], [0]), ([], []), ([], []), ([], []), ([3, 4], [3, 4]), ([5], [5]), ([6], [6]), ([2, 7], [2, 7]), ([], []), ([9], [9]), ([8, 10], [8, 10]), ([1, 11], [1, 11])])
def sandglasslaw13_ExactRate.B22 : List Nat := [0, 1, 0, 0, 0, 24, 56, 120, 252, 0, 512, 2044, 4095]
theorem sandglasslaw13_ExactRate.tab22 : rtab .any (opsOf Try.f6 22) = sandglasslaw13_ExactRate.T22 := by kernel_rfl
theorem sandglasslaw13_ExactRate.bits22 : waitsOk sandglasslaw13_ExactRate.T22.2 sandglasslaw13_ExactRate.B22 = true := by kernel_rfl
set_option maxHeartbeats 8000000 in
set_option maxRecDepth 100000 in
theorem sandglasslaw13_ExactRate.calls (k : Nat) (a0_0 : Int) (a0_1 : Int) (a0_2 : Int) (a0_3 : Int) (A1 : Option Addr) (c1 : Nat) (l1 : List (S45)) (r : Bool) (w : World) (hr1 : Kd.C k45 w A1 l1.length l1) (hc1 : l1.length ≤ c1) (h : sandglasslaw13_ExactRate.f k a0_0 a0_1 a0_2 a0_3 l1 = some r) :
  Calls Try.prog 6 #[.agg #[.int .i64 a0_0, .int .i64 a0_1, .int .i64 a0_2, .int .i64 a0_3], .slice A1 l1.length c1] w fun e w' => e = .returned (.bool r) ∧ Below w.heap.size w w' := by
 have hu23 := Try.underlying23
 have hu27 := Try.underlying27
 have hu32 := Try.underlying32
 have HR1 := Aside0.mk hr1
 have HC1 := Aside0.mk hc1
 clear hr1 hc1
 have HB := Aside0.mk (Below.refl w.heap.size w)
 have H : (if (l1.length : Int) > 40 then (sandglasslaw13_ExactRate.j0 k l1 true a0_0 a0_1 a0_2 a0_3) else ((sandglassref09_Check.f k a0_0 a0_1 a0_2 a0_3).bind fun t482 => (if t482 = 0 then (sandglasslaw13_ExactRate.j0 k l1 (a0_0 != 4) a0_0 a0_1 a0_2 a0_3) else (sandglasslaw13_ExactRate.j0 k l1 true a0_0 a0_1 a0_2 a0_3)))) = some r := h
 clear h
 have HC3 := Aside0.mk H
 clear H
 go_enter Try.func6, Try.ntmps6
 go_upto_region 1 with (first | ((with_reducible refine gate_dst (N := 2) rfl ?_); (try (refine gate_guard (by rfl) ?_; dsimp only)); refine box_event ?hg (N := 2) ?hd (cs := #[.int .i64 a0_0, .int .i64 a0_1, .int .i64 a0_2, .int .i64 a0_3]) (t := 23) ?hr ?_; (case hd => rfl); (case hg => rfl); (case hr => first | (go_simp; done) | (go_simp; rfl)); intro gb481 hg w4 hbox hb; have BK481 := Aside0.mk (hbox); have GW481 := Aside0.mk ((by rw [hg]; exact (below_size (bl HB)) : w.heap.size ≤ gb481)); have GE481 := Aside0.mk ((by rw [hg]; exact (below_size (bl HB)) : w.heap.size ≤ gb481)); replace HB := Aside0.mk (below_step (bl HB) hb); clear hb hbox hg))
 (try simp only [Act.put, List.setIfInBounds_toArray, List.set_cons_zero, List.set_cons_succ])
 go_cut [26] (fun v26 wc => ∃ (kq : Nat) (x26_2 : Bool), v26 = .bool x26_2 ∧ Aside0 (sandglasslaw13_ExactRate.j0 kq l1 x26_2 a0_0 a0_1 a0_2 a0_3 = some r) ∧ Aside0 (kq ≤ k) ∧ Aside0 (wc.heap[gb481]? = some (.cells #[.int .i64 a0_0, .int .i64 a0_1, .int .i64 a0_2, .int .i64 a0_3] 23 (0, 0))) ∧ Aside0 (Below w.heap.size w wc))
 case first =>
  have H := HC3.out
  clear HC3
  by_cases c5 : (l1.length : Int) > 40
  ·rw [if_pos c5] at H
   have c5b0 : decide (40 < (l1.length : Int)) = true := decide_eq_true c5
   have c5b1 : decide (40 < l1.length) = true := decide_eq_true (by omega)
   clear c5
   (first | rw [c5b0] | (simp only [i64_w, i32_w]; rw [c5b0]) | skip)
   have H' := Aside0.mk H
   clear H
   go_wp2
   go_meet
   case rel => exact ⟨_, (true), (by first | (with_reducible rfl) | rfl | (simp; done) | (simp [*]; done)), H', ⟨by first | omega | exact Nat.le_refl _⟩, ⟨bo BK481⟩, ⟨bl HB⟩⟩
  ·rw [if_neg c5] at H
   have c5b0 : decide (40 < (l1.length : Int)) = false := decide_eq_false c5
   have c5b1 : decide (40 < l1.length) = false := decide_eq_false (by omega)
   clear c5
   (first | rw [c5b0] | (simp only [i64_w, i32_w]; rw [c5b0]) | skip)
   replace H := Option.bind_eq_some_iff.mp H
   obtain ⟨t482, A60, H⟩ := H
   have A6 := Aside0.mk A60
   clear A60
   by_cases c7 : t482 = 0
   ·rw [if_pos c7] at H
    have c7b0 : (t482 == 0) = true := beq_iff_eq.mpr c7
    have c7b1 : (t482 != 0) = false := bne_eq_false_iff_eq.mpr c7
    clear c7
    have H' := Aside0.mk H
    clear H
    obtain ⟨hcz8_0, hcz8_1, hcz8_2, hcz8_3⟩ := ce4 BK481
    obtain ⟨hfz8_0, hfz8_1, hfz8_2, hfz8_3⟩ := fr4 BK481
    go_wp2_with (first | (go_at_call 20; (with_reducible refine (sandglassref09_Check.calls k a0_0 a0_1 a0_2 a0_3 t482 _ A6.out).mono ?_); rintro e w9 ⟨rfl, hb⟩; replace BK481 := Aside0.mk (blk_below (bo BK481) hb); replace HB := Aside0.mk (below_step (bl HB) hb); (try clear hb); (try clear hb2); (try clear hk); (try clear hi); obtain ⟨hcz10_0, hcz10_1, hcz10_2, hcz10_3⟩ := ce4 BK481; obtain ⟨hfz10_0, hfz10_1, hfz10_2, hfz10_3⟩ := fr4 BK481))
    go_meet
    case rel => exact ⟨_, ((a0_0 != 4)), (by first | (with_reducible rfl) | rfl | (simp; done) | (simp [*]; done)), H', ⟨by first | omega | exact Nat.le_refl _⟩, ⟨bo BK481⟩, ⟨bl HB⟩⟩
   ·rw [if_neg c7] at H
    have c7b0 : (t482 == 0) = false := beq_eq_false_iff_ne.mpr c7
    have c7b1 : (t482 != 0) = true := bne_iff_ne.mpr c7
    have H' := Aside0.mk H
    clear H
    obtain ⟨hcz11_0, hcz11_1, hcz11_2, hcz11_3⟩ := ce4 BK481
    obtain ⟨hfz11_0, hfz11_1, hfz11_2, hfz11_3⟩ := fr4 BK481
    go_wp2_with (first | (go_at_call 20; (with_reducible refine (sandglassref09_Check.calls k a0_0 a0_1 a0_2 a0_3 t482 _ A6.out).mono ?_); rintro e w12 ⟨rfl, hb⟩; replace BK481 := Aside0.mk (blk_below (bo BK481) hb); replace HB := Aside0.mk (below_step (bl HB) hb); (try clear hb); (try clear hb2); (try clear hk); (try clear hi)))
    go_meet
    case rel => exact ⟨_, (true), (by first | (with_reducible rfl) | rfl | (simp; done) | (simp [*]; done)), H', ⟨by first | omega | exact Nat.le_refl _⟩, ⟨bo BK481⟩, ⟨bl HB⟩⟩
 case rest =>
  clear HC3
  try clear c1; try clear c5; try clear c5b0; try clear c5b1; try clear c7; try clear c7b0; try clear c7b1; try clear hcz10_0; try clear hcz10_1; try clear hcz10_2; try clear hcz10_3; try clear hcz11_0; try clear hcz11_1; try clear hcz11_2; try clear hcz11_3; try clear hcz8_0; try clear hcz8_1; try clear hcz8_2; try clear hcz8_3; try clear hfz10_0; try clear hfz10_1; try clear hfz10_2; try clear hfz10_3; try clear hfz11_0; try clear hfz11_1; try clear hfz11_2; try clear hfz11_3; try clear hfz8_0; try clear hfz8_1; try clear hfz8_2; try clear hfz8_3
  obtain ⟨kq, x26_2, rfl, HA, HJ2, BK481, HB⟩ := hcut
  cases kq with
  | zero => exact absurd HA.out (by simp [sandglasslaw13_ExactRate.j0])
  | succ kj2 =>
   have H := HA.out
   clear HA
   simp only [sandglasslaw13_ExactRate.j0] at H
   by_cases c13 : x26_2 = true
   ·subst c13
    rw [if_pos rfl] at H
    replace H := Option.bind_eq_some_iff.mp H
    obtain ⟨t483, A140, H⟩ := H
    have A14 := Aside0.mk A140
    clear A140
    obtain rfl := Option.some.inj H
    go_wp2_with (first | ((with_reducible refine gate_callee (f := 9) rfl ?_); refine goesL_ (some 27) rfl rfl Try.func9 (by kernel_rfl) rfl #[] rfl (by (try simp only [List.map_toArray, List.map_cons, List.map_nil]); first | done | rfl | (simp only [List.length_drop, List.length_take]; rfl)) ?_; (with_reducible refine (sandglasslaw13_live.calls kj2  t483 _ A14.out).mono ?_); rintro e w15 ⟨rfl, hb⟩; refine ⟨_, rfl, ?_⟩; replace BK481 := Aside0.mk (blk_below (bo BK481) hb); replace HB := Aside0.mk (below_step (bl HB) hb); (try clear hb); (try clear hb2); (try clear hk); (try clear hi)))
    go_ret
    exact ⟨by first | (with_reducible rfl) | rfl | (simp [errW_none, errW_some] <;> rfl) | (simp [*, errW_none, errW_some] <;> rfl), bl HB⟩
   ·replace c13 := Bool.eq_false_iff.mpr c13
    subst c13
    rw [if_neg (show ¬ (false = true) by decide)] at H
    have H' := Aside0.mk H
    clear H
    go_wp2_with (first | ((with_reducible refine gate_dst (N := 5) rfl ?_); (try (refine gate_guard (by rfl) ?_; dsimp only)); refine box_event ?hg (N := 5) ?hd (cs := #[.int .i64 0, .int .i64 0, .slice none 0 0, .slice none 0 0]) (t := 27) ?hr ?_; (case hd => rfl); (case hg => rfl); (case hr => first | (go_simp; done) | (go_simp; rfl)); intro gb484 hg w16 hbox hb; have BK484 := Aside0.mk (hbox); have GW484 := Aside0.mk ((by rw [hg]; exact (below_size (bl HB)) : w.heap.size ≤ gb484)); have GE484 := Aside0.mk ((by rw [hg]; exact (below_size (bl HB)) : w.heap.size ≤ gb484)); have NB481_484 := nb BK481 hg; have NB484_481 := bn BK481 hg; replace BK481 := Aside0.mk (blk_below (bo BK481) hb); replace HB := Aside0.mk (below_step (bl HB) hb); clear hb hbox hg; have hnb17 := NB484_481.out; have hnc17 := NB481_484.out; obtain ⟨hcz18_0, hcz18_1, hcz18_2, hcz18_3⟩ := ce4 BK484; obtain ⟨hfz18_0, hfz18_1, hfz18_2, hfz18_3⟩ := fr4 BK484) | ((with_reducible refine gate_store (t := 27) (p := 5) rfl ?_); refine store_event (t := 27) (p := 5) (v := ?vo_w19) (w1 := ((((w16.setCell ⟨gb484, 0, none⟩ (.int .i64 0)).setCell ⟨gb484, 1, none⟩ (.int .i64 0)).setCell ⟨gb484, 2, none⟩ (.slice none 0 0)).setCell ⟨gb484, 3, none⟩ (.slice none 0 0))) ?hg ?ho ?hn ?hr ?_; (case ho => rfl); (case hg => rfl); (case hn => rfl); (case hr => first | (go_simp; done) | (go_simp; rfl)); intro w19 hw; replace BK481 : Aside0 (w19.heap[gb481]? = some (.cells #[.int .i64 a0_0, .int .i64 a0_1, .int .i64 a0_2, .int .i64 a0_3] 23 (0, 0))) := ⟨(by rw [hw]; exact (by (with_reducible repeat (first | refine blk_drewN ?_ _ | refine blk_drew ?_ | refine blk_alloc ?_ _)); refine blk_far ?_ NB481_484.out _; (with_reducible repeat (first | refine blk_drewN ?_ _ | refine blk_drew ?_ | refine blk_alloc ?_ _)); refine blk_far ?_ NB481_484.out _; (with_reducible repeat (first | refine blk_drewN ?_ _ | refine blk_drew ?_ | refine blk_alloc ?_ _)); refine blk_far ?_ NB481_484.out _; (with_reducible repeat (first | refine blk_drewN ?_ _ | refine blk_drew ?_ | refine blk_alloc ?_ _)); refine blk_far ?_ NB481_484.out _; (with_reducible repeat (first | refine blk_drewN ?_ _ | refine blk_drew ?_ | refine blk_alloc ?_ _)); exact BK481.out))⟩; replace BK484 : Aside0 (w19.heap[gb484]? = some (.cells #[.int .i64 0, .int .i64 0, .slice none 0 0, .slice none 0 0] 27 (0, 0))) := ⟨(by rw [hw]; exact (by (with_reducible repeat (first | refine blk_drewN ?_ _ | refine blk_drew ?_ | refine blk_alloc ?_ _)); refine blk_put (cs := #[.int .i64 0, .int .i64 0, .slice none 0 0, .slice none 0 0]) ?_ 3 _ rfl; (with_reducible repeat (first | refine blk_drewN ?_ _ | refine blk_drew ?_ | refine blk_alloc ?_ _)); refine blk_put (cs := #[.int .i64 0, .int .i64 0, .slice none 0 0, .slice none 0 0]) ?_ 2 _ rfl; (with_reducible repeat (first | refine blk_drewN ?_ _ | refine blk_drew ?_ | refine blk_alloc ?_ _)); refine blk_put (cs := #[.int .i64 0, .int .i64 0, .slice none 0 0, .slice none 0 0]) ?_ 1 _ rfl; (with_reducible repeat (first | refine blk_drewN ?_ _ | refine blk_drew ?_ | refine blk_alloc ?_ _)); refine blk_put (cs := #[.int .i64 0, .int .i64 0, .slice none 0 0, .slice none 0 0]) ?_ 0 _ rfl; (with_reducible repeat (first | refine blk_drewN ?_ _ | refine blk_drew ?_ | refine blk_alloc ?_ _)); exact BK484.out))⟩; replace HB : Aside0 (Below w.heap.size w w19) := ⟨(by rw [hw]; exact (bl HB))⟩; clear hw))
    go_loopg [6, 7, 8, 9] kj2 (fun kq v6 v7 v8 v9 w' => ∃ (x6_2 : Int) (x7_2 : List Int) (x8_2 : List Int) (x9_2 : Int) (x485000_2 : Int) (x485001_2 : Int) (x485002_2 : List Int) (x485003_2 : List (S50)) (u485002 : Value) (u485003 : Value), v6 = .int .i64 x6_2 ∧ v9 = .int .i64 x9_2 ∧ Aside0 (sandglasslaw13_ExactRate.l0 kq l1 x6_2 x7_2 x8_2 x9_2 a0_0 a0_1 a0_2 a0_3 x485000_2 x485001_2 x485002_2 x485003_2 = some r) ∧ Aside0 (kq ≤ kj2) ∧ Aside0 (Kd.R (Kd.int .i64) 3 w' w.heap.size (fun k_ => some k_ ≠ (v8 : Value).ownBlock) v7 x7_2) ∧ Aside0 (Kd.R (Kd.int .i64) 3 w' w.heap.size (fun k_ => some k_ ≠ (v7 : Value).ownBlock) v8 x8_2) ∧ Aside0 (Kd.V (Kd.int .i64) 3 w' w.heap.size (fun k_ => some k_ ≠ (v7 : Value).ownBlock ∧ some k_ ≠ (v8 : Value).ownBlock ∧ k_ ≠ gb481 ∧ k_ ≠ gb484) u485002 x485002_2) ∧ Aside0 (Kd.V k50 50 w' w.heap.size (fun k_ => some k_ ≠ (v7 : Value).ownBlock ∧ some k_ ≠ (v8 : Value).ownBlock ∧ k_ ≠ gb481 ∧ k_ ≠ gb484) u485003 x485003_2) ∧ Aside0 (w'.heap[gb481]? = some (.cells #[.int .i64 a0_0, .int .i64 a0_1, .int .i64 a0_2, .int .i64 a0_3] 23 (0, 0))) ∧ Aside0 (w'.heap[gb484]? = some (.cells #[.int .i64 x485000_2, .int .i64 x485001_2, u485002, u485003] 27 (0, 0))) ∧ Aside0 (Below w.heap.size w w'))
    case atStart => exact ⟨(0), (([] : List Int)), (([] : List Int)), (0), (0), (0), (([] : List Int)), (([] : List (S50))), (.slice none 0 0), (.slice none 0 0), (by first | (with_reducible rfl) | rfl | (simp; done) | (simp [*]; done)), (by first | (with_reducible rfl) | rfl | (simp; done) | (simp [*]; done)), H', ⟨Nat.le_refl _⟩, ⟨by first | exact Kd.R_nil _ _ _ _ _ | exact Kd.N_nil _ _ _ _ _ | exact Kd.V_nil _ _ _ _ _ | exact Kd.Q_nil _ _ _ _ _ | exact Kd.S_nil _ _ _ _ _⟩, ⟨by first | exact Kd.R_nil _ _ _ _ _ | exact Kd.N_nil _ _ _ _ _ | exact Kd.V_nil _ _ _ _ _ | exact Kd.Q_nil _ _ _ _ _ | exact Kd.S_nil _ _ _ _ _⟩, ⟨Kd.V_nil _ _ _ _ _⟩, ⟨Kd.V_nil _ _ _ _ _⟩, ⟨bo BK481⟩, ⟨bo BK484⟩, ⟨bl HB⟩⟩
    case round =>
     clear H'
     try clear c1; try clear c5; try clear c5b0; try clear c5b1; try clear c7; try clear c7b0; try clear c7b1; try clear c13; try clear hcz10_0; try clear hcz10_1; try clear hcz10_2; try clear hcz10_3; try clear hcz11_0; try clear hcz11_1; try clear hcz11_2; try clear hcz11_3; try clear hcz18_0; try clear hcz18_1; try clear hcz18_2; try clear hcz18_3; try clear hcz8_0; try clear hcz8_1; try clear hcz8_2; try clear hcz8_3; try clear hfz10_0; try clear hfz10_1; try clear hfz10_2; try clear hfz10_3; try clear hfz11_0; try clear hfz11_1; try clear hfz11_2; try clear hfz11_3; try clear hfz18_0; try clear hfz18_1; try clear hfz18_2; try clear hfz18_3; try clear hfz8_0; try clear hfz8_1; try clear hfz8_2; try clear hfz8_3
     obtain ⟨x6_2, x7_2, x8_2, x9_2, x485000_2, x485001_2, x485002_2, x485003_2, u485002, u485003, rfl, rfl, HA, HK2, HO_7, HO_8, HO_485002, HO_485003, BK481, BK484, HB⟩ := hrel
     cases gk with
     | zero => exact absurd HA.out (by simp [sandglasslaw13_ExactRate.l0])
     | succ k2 =>
      have H := HA.out
      clear HA
      simp only [sandglasslaw13_ExactRate.l0] at H
      by_cases c20 : x9_2 < (l1.length : Int)
      ·rw [if_pos c20] at H
       have c20b0 : decide (x9_2 < (l1.length : Int)) = true := decide_eq_true c20
       clear c20
       have HC21 := Aside0.mk H
       clear H
       go_upto_region 10 with (fail)
       go_cut [57] (fun v57 wc => ∃ (kq : Nat) (x57_20 : Bool), v57 = .bool x57_20 ∧ Aside0 (sandglasslaw13_ExactRate.j2 kq l1 x6_2 x7_2 x8_2 x9_2 x57_20 a0_0 a0_1 a0_2 a0_3 x485000_2 x485001_2 x485002_2 x485003_2 = some r) ∧ Aside0 (kq ≤ k2) ∧ Aside0 (Kd.R (Kd.int .i64) 3 wc w.heap.size (fun k_ => some k_ ≠ (u8 : Value).ownBlock) u7 x7_2) ∧ Aside0 (Kd.R (Kd.int .i64) 3 wc w.heap.size (fun k_ => some k_ ≠ (u7 : Value).ownBlock) u8 x8_2) ∧ Aside0 (Kd.V (Kd.int .i64) 3 wc w.heap.size (fun k_ => some k_ ≠ (u7 : Value).ownBlock ∧ some k_ ≠ (u8 : Value).ownBlock ∧ k_ ≠ gb481 ∧ k_ ≠ gb484) u485002 x485002_2) ∧ Aside0 (Kd.V k50 50 wc w.heap.size (fun k_ => some k_ ≠ (u7 : Value).ownBlock ∧ some k_ ≠ (u8 : Value).ownBlock ∧ k_ ≠ gb481 ∧ k_ ≠ gb484) u485003 x485003_2) ∧ Aside0 (wc.heap[gb481]? = some (.cells #[.int .i64 a0_0, .int .i64 a0_1, .int .i64 a0_2, .int .i64 a0_3] 23 (0, 0))) ∧ Aside0 (wc.heap[gb484]? = some (.cells #[.int .i64 x485000_2, .int .i64 x485001_2, u485002, u485003] 27 (0, 0))) ∧ Aside0 (Below w.heap.size w wc))
       case first =>
        have H := HC21.out
        clear HC21
        by_cases c22 : 0 ≤ x9_2
        ·rw [if_pos c22] at H
         have c22b0 : decide (0 ≤ x9_2) = true := decide_eq_true c22
         clear c22
         (first | rw [c22b0] | (simp only [i64_w, i32_w]; rw [c22b0]) | skip)
         by_cases c23 : ((rd_T45 l1 x9_2).f0) < 0
         ·rw [if_pos c23] at H
          have c23b0 : decide (((rd_T45 l1 x9_2).f0) < 0) = true := decide_eq_true c23
          clear c23
          have H' := Aside0.mk H
          clear H
          have p485 : 0 ≤ (x9_2 : Int) := of_decide_eq_true (by first | (with_reducible assumption) | assumption)
          have q485 : x9_2 < (l1.length : Int) := of_decide_eq_true (by first | (with_reducible assumption) | assumption)
          obtain ⟨ad485, e485, hx485_0, hx485_1⟩ := at_T45 HR1.out x9_2 p485 q485
          cases e485
          replace hx485_0 := (HB.out.cell (World.block_lt_of_cell? w _ hx485_0)).trans hx485_0
          replace hx485_1 := (HB.out.cell (World.block_lt_of_cell? w _ hx485_1)).trans hx485_1
          replace p485 := eq_true p485
          replace q485 := eq_true q485
          go_wp2
          go_meet
          case rel => exact ⟨_, (true), (by first | (with_reducible rfl) | rfl | (simp; done) | (simp [*]; done)), H', ⟨by have := HJ2.out; have := HK2.out; first | omega | exact Nat.le_refl _⟩, ⟨by (with_reducible repeat (first | apply Kd.R_alloc | apply Kd.R_drewN | apply Kd.R_drew)); exact HO_7.out⟩, ⟨by (with_reducible repeat (first | apply Kd.R_alloc | apply Kd.R_drewN | apply Kd.R_drew)); exact HO_8.out⟩, ⟨by (with_reducible repeat (first | apply Kd.V_alloc | apply Kd.V_drewN | apply Kd.V_drew)); exact HO_485002.out⟩, ⟨by (with_reducible repeat (first | apply Kd.V_alloc | apply Kd.V_drewN | apply Kd.V_drew)); exact HO_485003.out⟩, ⟨bo BK481⟩, ⟨bo BK484⟩, ⟨bl HB⟩⟩
         ·rw [if_neg c23] at H
          have c23b0 : decide (((rd_T45 l1 x9_2).f0) < 0) = false := decide_eq_false c23
          clear c23
          by_cases c24 : ((rd_T45 l1 x9_2).f0) > 1048576
          ·rw [if_pos c24] at H
           have c24b0 : decide (1048576 < ((rd_T45 l1 x9_2).f0)) = true := decide_eq_true c24
           clear c24
           have H' := Aside0.mk H
           clear H
           have p485 : 0 ≤ (x9_2 : Int) := of_decide_eq_true (by first | (with_reducible assumption) | assumption)
           have q485 : x9_2 < (l1.length : Int) := of_decide_eq_true (by first | (with_reducible assumption) | assumption)
           obtain ⟨ad485, e485, hx485_0, hx485_1⟩ := at_T45 HR1.out x9_2 p485 q485
           cases e485
           replace hx485_0 := (HB.out.cell (World.block_lt_of_cell? w _ hx485_0)).trans hx485_0
           replace hx485_1 := (HB.out.cell (World.block_lt_of_cell? w _ hx485_1)).trans hx485_1
           replace p485 := eq_true p485
           replace q485 := eq_true q485
           have p486 : 0 ≤ (x9_2 : Int) := of_decide_eq_true (by first | (with_reducible assumption) | assumption)
           have q486 : x9_2 < (l1.length : Int) := of_decide_eq_true (by first | (with_reducible assumption) | assumption)
           obtain ⟨ad486, e486, hx486_0, hx486_1⟩ := at_T45 HR1.out x9_2 p486 q486
           obtain rfl : ad485 = ad486 := (by injection e486)
           replace hx486_0 := (HB.out.cell (World.block_lt_of_cell? w _ hx486_0)).trans hx486_0
           replace hx486_1 := (HB.out.cell (World.block_lt_of_cell? w _ hx486_1)).trans hx486_1
           replace p486 := eq_true p486
           replace q486 := eq_true q486
           go_wp2
           go_meet
           case rel => exact ⟨_, (true), (by first | (with_reducible rfl) | rfl | (simp; done) | (simp [*]; done)), H', ⟨by have := HJ2.out; have := HK2.out; first | omega | exact Nat.le_refl _⟩, ⟨by (with_reducible repeat (first | apply Kd.R_alloc | apply Kd.R_drewN | apply Kd.R_drew)); exact HO_7.out⟩, ⟨by (with_reducible repeat (first | apply Kd.R_alloc | apply Kd.R_drewN | apply Kd.R_drew)); exact HO_8.out⟩, ⟨by (with_reducible repeat (first | apply Kd.V_alloc | apply Kd.V_drewN | apply Kd.V_drew)); exact HO_485002.out⟩, ⟨by (with_reducible repeat (first | apply Kd.V_alloc | apply Kd.V_drewN | apply Kd.V_drew)); exact HO_485003.out⟩, ⟨bo BK481⟩, ⟨bo BK484⟩, ⟨bl HB⟩⟩
          ·rw [if_neg c24] at H
           have c24b0 : decide (1048576 < ((rd_T45 l1 x9_2).f0)) = false := decide_eq_false c24
           clear c24
           replace H := Option.bind_eq_some_iff.mp H
           obtain ⟨t488, A250, H⟩ := H
           have A25 := Aside0.mk A250
           clear A250
           have H' := Aside0.mk H
           clear H
           have p485 : 0 ≤ (x9_2 : Int) := of_decide_eq_true (by first | (with_reducible assumption) | assumption)
           have q485 : x9_2 < (l1.length : Int) := of_decide_eq_true (by first | (with_reducible assumption) | assumption)
           obtain ⟨ad485, e485, hx485_0, hx485_1⟩ := at_T45 HR1.out x9_2 p485 q485
           cases e485
           replace hx485_0 := (HB.out.cell (World.block_lt_of_cell? w _ hx485_0)).trans hx485_0
           replace hx485_1 := (HB.out.cell (World.block_lt_of_cell? w _ hx485_1)).trans hx485_1
           replace p485 := eq_true p485
           replace q485 := eq_true q485
           have p486 : 0 ≤ (x9_2 : Int) := of_decide_eq_true (by first | (with_reducible assumption) | assumption)
           have q486 : x9_2 < (l1.length : Int) := of_decide_eq_true (by first | (with_reducible assumption) | assumption)
           obtain ⟨ad486, e486, hx486_0, hx486_1⟩ := at_T45 HR1.out x9_2 p486 q486
           obtain rfl : ad485 = ad486 := (by injection e486)
           replace hx486_0 := (HB.out.cell (World.block_lt_of_cell? w _ hx486_0)).trans hx486_0
           replace hx486_1 := (HB.out.cell (World.block_lt_of_cell? w _ hx486_1)).trans hx486_1
           replace p486 := eq_true p486
           replace q486 := eq_true q486
           have p487 : 0 ≤ (x9_2 : Int) := of_decide_eq_true (by first | (with_reducible assumption) | assumption)
           have q487 : x9_2 < (l1.length : Int) := of_decide_eq_true (by first | (with_reducible assumption) | assumption)
           obtain ⟨ad487, e487, hx487_0, hx487_1⟩ := at_T45 HR1.out x9_2 p487 q487
           obtain rfl : ad485 = ad487 := (by injection e487)
           replace hx487_0 := (HB.out.cell (World.block_lt_of_cell? w _ hx487_0)).trans hx487_0
           replace hx487_1 := (HB.out.cell (World.block_lt_of_cell? w _ hx487_1)).trans hx487_1
           replace p487 := eq_true p487
           replace q487 := eq_true q487
           go_wp2_with (first | (go_at_call 19; (with_reducible refine (sandglassref09_Weighs.calls ((rd_T45 l1 x9_2).f1) t488 _ A25.out).mono ?_); rintro e w' ⟨rfl, ⟨nd, rfl⟩⟩))
           go_meet
           case rel => exact ⟨_, (!t488), (by first | (with_reducible rfl) | rfl | (simp; done) | (simp [*]; done)), H', ⟨by have := HJ2.out; have := HK2.out; first | omega | exact Nat.le_refl _⟩, ⟨by (with_reducible repeat (first | apply Kd.R_alloc | apply Kd.R_drewN | apply Kd.R_drew)); exact HO_7.out⟩, ⟨by (with_reducible repeat (first | apply Kd.R_alloc | apply Kd.R_drewN | apply Kd.R_drew)); exact HO_8.out⟩, ⟨by (with_reducible repeat (first | apply Kd.V_alloc | apply Kd.V_drewN | apply Kd.V_drew)); exact HO_485002.out⟩, ⟨by (with_reducible repeat (first | apply Kd.V_alloc | apply Kd.V_drewN | apply Kd.V_drew)); exact HO_485003.out⟩, ⟨bo BK481⟩, ⟨bo BK484⟩, ⟨bl HB⟩⟩
        ·rw [if_neg c22] at H
         exact absurd H (by simp)
       case rest =>
        clear HC21
        try clear c1; try clear c5; try clear c5b0; try clear c5b1; try clear c7; try clear c7b0; try clear c7b1; try clear c13; try clear c20; try clear c20b0; try clear c22; try clear c22b0; try clear c23; try clear c23b0; try clear c24; try clear c24b0; try clear hcz10_0; try clear hcz10_1; try clear hcz10_2; try clear hcz10_3; try clear hcz11_0; try clear hcz11_1; try clear hcz11_2; try clear hcz11_3; try clear hcz18_0; try clear hcz18_1; try clear hcz18_2; try clear hcz18_3; try clear hcz8_0; try clear hcz8_1; try clear hcz8_2; try clear hcz8_3; try clear hfz10_0; try clear hfz10_1; try clear hfz10_2; try clear hfz10_3; try clear hfz11_0; try clear hfz11_1; try clear hfz11_2; try clear hfz11_3; try clear hfz18_0; try clear hfz18_1; try clear hfz18_2; try clear hfz18_3; try clear hfz8_0; try clear hfz8_1; try clear hfz8_2; try clear hfz8_3; try clear hx485_0; try clear hx485_1; try clear hx486_0; try clear hx486_1; try clear hx487_0; try clear hx487_1; try clear p485; try clear p486; try clear p487; try clear q485; try clear q486; try clear q487
        obtain ⟨kq, x57_20, rfl, HA, HJ20, HO_7, HO_8, HO_485002, HO_485003, BK481, BK484, HB⟩ := hcut
        cases kq with
        | zero => exact absurd HA.out (by simp [sandglasslaw13_ExactRate.j2])
        | succ kj20 =>
         have H := HA.out
         clear HA
         simp only [sandglasslaw13_ExactRate.j2] at H
         by_cases c26 : x57_20 = true
         ·subst c26
          rw [if_pos rfl] at H
          replace H := Option.bind_eq_some_iff.mp H
          obtain ⟨t489, A270, H⟩ := H
          have A27 := Aside0.mk A270
          clear A270
          obtain rfl := Option.some.inj H
          go_wp2_with (first | ((with_reducible refine gate_callee (f := 9) rfl ?_); refine goesL_ (some 58) rfl rfl Try.func9 (by kernel_rfl) rfl #[] rfl (by (try simp only [List.map_toArray, List.map_cons, List.map_nil]); first | done | rfl | (simp only [List.length_drop, List.length_take]; rfl)) ?_; (with_reducible refine (sandglasslaw13_live.calls kj20  t489 _ A27.out).mono ?_); rintro e w28 ⟨rfl, hb⟩; refine ⟨_, rfl, ?_⟩; replace HO_7 := Aside0.mk (Kd.R_below (by (with_reducible repeat (first | apply Kd.R_alloc | apply Kd.R_drewN | apply Kd.R_drew)); exact HO_7.out) hb); replace HO_8 := Aside0.mk (Kd.R_below (by (with_reducible repeat (first | apply Kd.R_alloc | apply Kd.R_drewN | apply Kd.R_drew)); exact HO_8.out) hb); replace HO_485002 := vb HO_485002 hb; replace HO_485003 := vb HO_485003 hb; replace BK481 := Aside0.mk (blk_below (bo BK481) hb); replace BK484 := Aside0.mk (blk_below (bo BK484) hb); replace HB := Aside0.mk (below_step (bl HB) hb); (try clear hb); (try clear hb2); (try clear hk); (try clear hi)))
          go_ret
          exact ⟨by first | (with_reducible rfl) | rfl | (simp [errW_none, errW_some] <;> rfl) | (simp [*, errW_none, errW_some] <;> rfl), bl HB⟩
         ·replace c26 := Bool.eq_false_iff.mpr c26
          subst c26
          rw [if_neg (show ¬ (false = true) by decide)] at H
          by_cases c29 : 0 ≤ x9_2
          ·rw [if_pos c29] at H
           have c29b0 : decide (0 ≤ x9_2) = true := decide_eq_true c29
           clear c29
           by_cases c30 : x9_2 < (l1.length : Int)
           ·rw [if_pos c30] at H
            have c30b0 : decide (x9_2 < (l1.length : Int)) = true := decide_eq_true c30
            clear c30
            have H' := Aside0.mk H
            clear H
            have p490 : 0 ≤ (x9_2 : Int) := of_decide_eq_true (by first | (with_reducible assumption) | assumption)
            have q490 : x9_2 < (l1.length : Int) := of_decide_eq_true (by first | (with_reducible assumption) | assumption)
            obtain ⟨ad490, e490, hx490_0, hx490_1⟩ := at_T45 HR1.out x9_2 p490 q490
            cases e490
            replace hx490_0 := (HB.out.cell (World.block_lt_of_cell? w _ hx490_0)).trans hx490_0
            replace hx490_1 := (HB.out.cell (World.block_lt_of_cell? w _ hx490_1)).trans hx490_1
            replace p490 := eq_true p490
            replace q490 := eq_true q490
            go_wp2
            go_loopg [10, 11] kj20 (fun kq v10 v11 w' => ∃ (x10_4 : Int) (x11_4 : Int), v10 = .int .i64 x10_4 ∧ v11 = .int .i64 x11_4 ∧ Aside0 (sandglasslaw13_ExactRate.l1 kq l1 (wrap64 (x6_2 + ((rd_T45 l1 x9_2).f0))) x7_2 x8_2 x9_2 x10_4 x11_4 a0_0 a0_1 a0_2 a0_3 x485000_2 x485001_2 x485002_2 x485003_2 = some r) ∧ Aside0 (kq ≤ kj20) ∧ Aside0 (Kd.R (Kd.int .i64) 3 w' w.heap.size (fun k_ => some k_ ≠ (u8 : Value).ownBlock) u7 x7_2) ∧ Aside0 (Kd.R (Kd.int .i64) 3 w' w.heap.size (fun k_ => some k_ ≠ (u7 : Value).ownBlock) u8 x8_2) ∧ Aside0 (Kd.V (Kd.int .i64) 3 w' w.heap.size (fun k_ => some k_ ≠ (u7 : Value).ownBlock ∧ some k_ ≠ (u8 : Value).ownBlock ∧ k_ ≠ gb481 ∧ k_ ≠ gb484) u485002 x485002_2) ∧ Aside0 (Kd.V k50 50 w' w.heap.size (fun k_ => some k_ ≠ (u7 : Value).ownBlock ∧ some k_ ≠ (u8 : Value).ownBlock ∧ k_ ≠ gb481 ∧ k_ ≠ gb484) u485003 x485003_2) ∧ Aside0 (w'.heap[gb481]? = some (.cells #[.int .i64 a0_0, .int .i64 a0_1, .int .i64 a0_2, .int .i64 a0_3] 23 (0, 0))) ∧ Aside0 (w'.heap[gb484]? = some (.cells #[.int .i64 x485000_2, .int .i64 x485001_2, u485002, u485003] 27 (0, 0))) ∧ Aside0 (Below w.heap.size w w'))
            case atStart => exact ⟨(0), (0), (by first | (with_reducible rfl) | rfl | (simp; done) | (simp [*]; done)), (by first | (with_reducible rfl) | rfl | (simp; done) | (simp [*]; done)), H', ⟨Nat.le_refl _⟩, ⟨by (with_reducible repeat (first | apply Kd.R_alloc | apply Kd.R_drewN | apply Kd.R_drew)); exact HO_7.out⟩, ⟨by (with_reducible repeat (first | apply Kd.R_alloc | apply Kd.R_drewN | apply Kd.R_drew)); exact HO_8.out⟩, ⟨by (with_reducible repeat (first | apply Kd.V_alloc | apply Kd.V_drewN | apply Kd.V_drew)); exact HO_485002.out⟩, ⟨by (with_reducible repeat (first | apply Kd.V_alloc | apply Kd.V_drewN | apply Kd.V_drew)); exact HO_485003.out⟩, ⟨bo BK481⟩, ⟨bo BK484⟩, ⟨bl HB⟩⟩
            case round =>
             clear H'
             try clear c1; try clear c5; try clear c5b0; try clear c5b1; try clear c7; try clear c7b0; try clear c7b1; try clear c13; try clear c20; try clear c20b0; try clear c22; try clear c22b0; try clear c23; try clear c23b0; try clear c24; try clear c24b0; try clear c26; try clear c29; try clear c29b0; try clear c30; try clear c30b0; try clear hcz10_0; try clear hcz10_1; try clear hcz10_2; try clear hcz10_3; try clear hcz11_0; try clear hcz11_1; try clear hcz11_2; try clear hcz11_3; try clear hcz18_0; try clear hcz18_1; try clear hcz18_2; try clear hcz18_3; try clear hcz8_0; try clear hcz8_1; try clear hcz8_2; try clear hcz8_3; try clear hfz10_0; try clear hfz10_1; try clear hfz10_2; try clear hfz10_3; try clear hfz11_0; try clear hfz11_1; try clear hfz11_2; try clear hfz11_3; try clear hfz18_0; try clear hfz18_1; try clear hfz18_2; try clear hfz18_3; try clear hfz8_0; try clear hfz8_1; try clear hfz8_2; try clear hfz8_3; try clear hx485_0; try clear hx485_1; try clear hx486_0; try clear hx486_1; try clear hx487_0; try clear hx487_1; try clear hx490_0; try clear hx490_1; try clear p485; try clear p486; try clear p487; try clear p490; try clear q485; try clear q486; try clear q487; try clear q490
             obtain ⟨x10_4, x11_4, rfl, rfl, HA, HK4, HO_7, HO_8, HO_485002, HO_485003, BK481, BK484, HB⟩ := hrel
             cases gk with
             | zero => exact absurd HA.out (by simp [sandglasslaw13_ExactRate.l1])
             | succ k4 =>
              have H := HA.out
              clear HA
              simp only [sandglasslaw13_ExactRate.l1] at H
              by_cases c31 : x11_4 < x9_2
              ·rw [if_pos c31] at H
               have c31b0 : decide (x11_4 < x9_2) = true := decide_eq_true c31
               clear c31
               by_cases c32 : 0 ≤ x11_4
               ·rw [if_pos c32] at H
                have c32b0 : decide (0 ≤ x11_4) = true := decide_eq_true c32
                clear c32
                by_cases c33 : x11_4 < (x7_2.length : Int)
                ·rw [if_pos c33] at H
                 have c33b0 : decide (x11_4 < (x7_2.length : Int)) = true := decide_eq_true c33
                 clear c33
                 by_cases c34 : (rd x7_2 x11_4) > (wrap64 ((wrap64 (x6_2 + ((rd_T45 l1 x9_2).f0))) - a0_2))
                 ·rw [if_pos c34] at H
                  have c34b0 : decide ((wrap64 ((wrap64 (x6_2 + ((rd_T45 l1 x9_2).f0))) - a0_2)) < (rd x7_2 x11_4)) = true := decide_eq_true c34
                  clear c34
                  by_cases c35 : x11_4 < (x8_2.length : Int)
                  ·rw [if_pos c35] at H
                   have c35b0 : decide (x11_4 < (x8_2.length : Int)) = true := decide_eq_true c35
                   clear c35
                   have H' := Aside0.mk H
                   clear H
                   try go_wp2
                   replace HO_7 := Aside0.mk (Kd.R_drew HO_7.out)
                   replace HO_8 := Aside0.mk (Kd.R_drew HO_8.out)
                   replace HO_485002 := Aside0.mk (Kd.V_drew HO_485002.out)
                   replace HO_485003 := Aside0.mk (Kd.V_drew HO_485003.out)
                   replace BK481 := Aside0.mk (blk_drew BK481.out)
                   replace BK484 := Aside0.mk (blk_drew BK484.out)
                   replace HB := Aside0.mk (below_drew1 HB.out)
                   obtain ⟨Ao37, co37, eo37⟩ := Kd.R_slice HO_7.out
                   (first | subst eo37 | (injection eo37 with f1_ f2_ f3_; have f4_ := f1_.symm; have f5_ := f3_.symm; clear f1_ f2_ f3_; subst f4_; subst f5_))
                   have p491 : 0 ≤ (x11_4 : Int) := of_decide_eq_true (by first | (with_reducible assumption) | assumption)
                   have q491 : x11_4 < (x7_2.length : Int) := of_decide_eq_true (by first | (with_reducible assumption) | assumption)
                   obtain ⟨ad491, e491, hx491_0⟩ := Kd.at_int (Kd.R_reads' HO_7.out).2.2 x11_4 p491 q491
                   cases e491
                   replace p491 := eq_true p491
                   replace q491 := eq_true q491
                   refine start_ (n := 9) (S := fun w' => w'.cell? ⟨gb481, 0, none⟩ = some (.int .i64 a0_0) ∧ w'.cell? ⟨gb481, 1, none⟩ = some (.int .i64 a0_1) ∧ w'.cell? ⟨gb481, 2, none⟩ = some (.int .i64 a0_2) ∧ w'.cell? ⟨gb481, 3, none⟩ = some (.int .i64 a0_3) ∧ w'.cell? (ad491.add (x11_4).toNat) = some (.int .i64 (rd x7_2 x11_4))) (ds := []) #[false, false, false, false, false, false, false, false, false] (by kernel_rfl) rfl rfl ⟨(blk_cell BK481.out 0).trans rfl, (blk_cell BK481.out 1).trans rfl, (blk_cell BK481.out 2).trans rfl, (blk_cell BK481.out 3).trans rfl, hx491_0⟩ (fun hHeld => ?_); refine with_tabW sandglasslaw13_ExactRate.tab17 sandglasslaw13_ExactRate.bits17 (fun HT_ HW_ => ?_)
                   generalize wr.drew = w36 at HO_7 HO_8 HO_485002 HO_485003 BK481 BK484 HB hx491_0 hHeld ⊢
                   refine pureA 0 71 HT_ ?_
                   refine pureA 1 72 HT_ ?_
                   refine pureA 2 73 HT_ ?_
                   refine pureA 4 75 HT_ ?_
                   refine pureA 5 76 HT_ ?_
                   refine takeA 3 74 HT_ HW_ hHeld ?_
                   refine takeA 6 77 HT_ HW_ hHeld ?_
                   refine pureA 7 78 HT_ ?_
                   refine pureA 8 79 HT_ ?_
                   refine done_ (done_of HT_.out (by kernel_rfl)) ?_
                   obtain ⟨Ao38, co38, eo38⟩ := Kd.R_slice HO_8.out
                   subst eo38
                   have p492 : 0 ≤ (x11_4 : Int) := of_decide_eq_true (by first | (with_reducible assumption) | assumption)
                   have q492 : x11_4 < (x8_2.length : Int) := of_decide_eq_true (by first | (with_reducible assumption) | assumption)
                   obtain ⟨ad492, e492, hx492_0⟩ := Kd.at_int (Kd.R_reads' HO_8.out).2.2 x11_4 p492 q492
                   cases e492
                   replace p492 := eq_true p492
                   replace q492 := eq_true q492
                   try go_wp2
                   go_roundg k4
                   case measure => have := HJ2.out; have := HK2.out; have := HJ20.out; have := HK4.out; omega
                   case rel => exact ⟨(wrap64 (x10_4 + (rd x8_2 x11_4))), (wrap64 (x11_4 + 1)), (by first | (with_reducible rfl) | rfl | (simp; done) | (simp [*]; done)), (by first | (with_reducible rfl) | rfl | (simp; done) | (simp [*]; done)), H', ⟨by have := HJ2.out; have := HK2.out; have := HJ20.out; have := HK4.out; omega⟩, ⟨by (with_reducible repeat (first | apply Kd.R_alloc | apply Kd.R_drewN | apply Kd.R_drew)); exact HO_7.out⟩, ⟨by (with_reducible repeat (first | apply Kd.R_alloc | apply Kd.R_drewN | apply Kd.R_drew)); exact HO_8.out⟩, ⟨by (with_reducible repeat (first | apply Kd.V_alloc | apply Kd.V_drewN | apply Kd.V_drew)); exact HO_485002.out⟩, ⟨by (with_reducible repeat (first | apply Kd.V_alloc | apply Kd.V_drewN | apply Kd.V_drew)); exact HO_485003.out⟩, ⟨bo BK481⟩, ⟨bo BK484⟩, ⟨bl HB⟩⟩
                  ·rw [if_neg c35] at H
                   exact absurd H (by simp)
                 ·rw [if_neg c34] at H
                  have c34b0 : decide ((wrap64 ((wrap64 (x6_2 + ((rd_T45 l1 x9_2).f0))) - a0_2)) < (rd x7_2 x11_4)) = false := decide_eq_false c34
                  clear c34
                  have H' := Aside0.mk H
                  clear H
                  try go_wp2
                  replace HO_7 := Aside0.mk (Kd.R_drew HO_7.out)
                  replace HO_8 := Aside0.mk (Kd.R_drew HO_8.out)
                  replace HO_485002 := Aside0.mk (Kd.V_drew HO_485002.out)
                  replace HO_485003 := Aside0.mk (Kd.V_drew HO_485003.out)
                  replace BK481 := Aside0.mk (blk_drew BK481.out)
                  replace BK484 := Aside0.mk (blk_drew BK484.out)
                  replace HB := Aside0.mk (below_drew1 HB.out)
                  obtain ⟨Ao40, co40, eo40⟩ := Kd.R_slice HO_7.out
                  (first | subst eo40 | (injection eo40 with f1_ f2_ f3_; have f4_ := f1_.symm; have f5_ := f3_.symm; clear f1_ f2_ f3_; subst f4_; subst f5_))
                  have p491 : 0 ≤ (x11_4 : Int) := of_decide_eq_true (by first | (with_reducible assumption) | assumption)
                  have q491 : x11_4 < (x7_2.length : Int) := of_decide_eq_true (by first | (with_reducible assumption) | assumption)
                  obtain ⟨ad491, e491, hx491_0⟩ := Kd.at_int (Kd.R_reads' HO_7.out).2.2 x11_4 p491 q491
                  cases e491
                  replace p491 := eq_true p491
                  replace q491 := eq_true q491
                  refine start_ (n := 9) (S := fun w' => w'.cell? ⟨gb481, 0, none⟩ = some (.int .i64 a0_0) ∧ w'.cell? ⟨gb481, 1, none⟩ = some (.int .i64 a0_1) ∧ w'.cell? ⟨gb481, 2, none⟩ = some (.int .i64 a0_2) ∧ w'.cell? ⟨gb481, 3, none⟩ = some (.int .i64 a0_3) ∧ w'.cell? (ad491.add (x11_4).toNat) = some (.int .i64 (rd x7_2 x11_4))) (ds := []) #[false, false, false, false, false, false, false, false, false] (by kernel_rfl) rfl rfl ⟨(blk_cell BK481.out 0).trans rfl, (blk_cell BK481.out 1).trans rfl, (blk_cell BK481.out 2).trans rfl, (blk_cell BK481.out 3).trans rfl, hx491_0⟩ (fun hHeld => ?_); refine with_tabW sandglasslaw13_ExactRate.tab17 sandglasslaw13_ExactRate.bits17 (fun HT_ HW_ => ?_)
                  generalize wr.drew = w39 at HO_7 HO_8 HO_485002 HO_485003 BK481 BK484 HB hx491_0 hHeld ⊢
                  refine pureA 0 71 HT_ ?_
                  refine pureA 1 72 HT_ ?_
                  refine pureA 2 73 HT_ ?_
                  refine pureA 4 75 HT_ ?_
                  refine pureA 5 76 HT_ ?_
                  refine takeA 3 74 HT_ HW_ hHeld ?_
                  refine takeA 6 77 HT_ HW_ hHeld ?_
                  refine pureA 7 78 HT_ ?_
                  refine pureA 8 79 HT_ ?_
                  refine done_ (done_of HT_.out (by kernel_rfl)) ?_
                  try go_wp2
                  go_roundg k4
                  case measure => have := HJ2.out; have := HK2.out; have := HJ20.out; have := HK4.out; omega
                  case rel => exact ⟨(x10_4), (wrap64 (x11_4 + 1)), (by first | (with_reducible rfl) | rfl | (simp; done) | (simp [*]; done)), (by first | (with_reducible rfl) | rfl | (simp; done) | (simp [*]; done)), H', ⟨by have := HJ2.out; have := HK2.out; have := HJ20.out; have := HK4.out; omega⟩, ⟨by (with_reducible repeat (first | apply Kd.R_alloc | apply Kd.R_drewN | apply Kd.R_drew)); exact HO_7.out⟩, ⟨by (with_reducible repeat (first | apply Kd.R_alloc | apply Kd.R_drewN | apply Kd.R_drew)); exact HO_8.out⟩, ⟨by (with_reducible repeat (first | apply Kd.V_alloc | apply Kd.V_drewN | apply Kd.V_drew)); exact HO_485002.out⟩, ⟨by (with_reducible repeat (first | apply Kd.V_alloc | apply Kd.V_drewN | apply Kd.V_drew)); exact HO_485003.out⟩, ⟨bo BK481⟩, ⟨bo BK484⟩, ⟨bl HB⟩⟩
                ·rw [if_neg c33] at H
                 exact absurd H (by simp)
               ·rw [if_neg c32] at H
                exact absurd H (by simp)
              ·rw [if_neg c31] at H
               have c31b0 : decide (x11_4 < x9_2) = false := decide_eq_false c31
               clear c31
               by_cases c41 : 0 ≤ x9_2
               ·rw [if_pos c41] at H
                have c41b0 : decide (0 ≤ x9_2) = true := decide_eq_true c41
                clear c41
                by_cases c42 : x9_2 < (l1.length : Int)
                ·rw [if_pos c42] at H
                 have c42b0 : decide (x9_2 < (l1.length : Int)) = true := decide_eq_true c42
                 clear c42
                 replace H := Option.bind_eq_some_iff.mp H
                 obtain ⟨⟨t494, t495, t496, t499, t502, t503, t504, t505⟩, A430, H⟩ := H
                 have A43 := Aside0.mk A430
                 clear A430
                 by_cases c44 : x7_2.length < 17592186044416
                 ·rw [if_pos c44] at H
                  have LMc44 := Aside0.mk c44
                  clear c44
                  obtain ⟨y508, hy508⟩ : ∃ y_ : List Int, y_ = (x7_2 ++ [(wrap64 (x6_2 + ((rd_T45 l1 x9_2).f0)))]) := ⟨_, rfl⟩
                  replace H : (if (t502 != (decide ((wrap64 (x10_4 + ((rd_T45 l1 x9_2).f1))) ≤ a0_1))) = true then (none) else (if t502 = true then (if x8_2.length < 17592186044416 then (sandglasslaw13_ExactRate.j4 k4 l1 (wrap64 (x6_2 + ((rd_T45 l1 x9_2).f0))) y508 (x8_2 ++ [(rd_T45 l1 x9_2).f1]) x9_2 (wrap64 (x10_4 + ((rd_T45 l1 x9_2).f1))) a0_0 a0_1 a0_2 a0_3 t494 t495 t496 t499 t502 t503 t504 t505) else (none)) else (if x8_2.length < 17592186044416 then (sandglasslaw13_ExactRate.j4 k4 l1 (wrap64 (x6_2 + ((rd_T45 l1 x9_2).f0))) y508 (x8_2 ++ [0]) x9_2 x10_4 a0_0 a0_1 a0_2 a0_3 t494 t495 t496 t499 t502 t503 t504 t505) else (none)))) = some r := by first | (rw [hy508]; with_reducible exact H) | (have H2_ := (Option.bind_some _ _).symm.trans H; rw [hy508]; with_reducible exact H2_) | (have H2_ := (Option.bind_some _ _).symm.trans H; with_reducible exact H2_) | with_reducible exact H | (rw [hy508]; exact H) | exact H
                  have Ny508 := Aside0.mk hy508
                  clear hy508
                  by_cases c45 : (t502 != (decide ((wrap64 (x10_4 + ((rd_T45 l1 x9_2).f1))) ≤ a0_1))) = true
                  ·rw [if_pos c45] at H
                   exact absurd H (by simp)
                  ·rw [if_neg c45] at H
                   have c45b0 : (t502 != (decide ((wrap64 (x10_4 + ((rd_T45 l1 x9_2).f1))) ≤ a0_1))) = false := by simpa using c45
                   (try (have c45b1 : decide (t502 = (decide ((wrap64 (x10_4 + ((rd_T45 l1 x9_2).f1))) ≤ a0_1))) = true := by simpa using c45))
                   (try (have c45b2 : (t502 == (decide ((wrap64 (x10_4 + ((rd_T45 l1 x9_2).f1))) ≤ a0_1))) = true := by simpa using c45))
                   clear c45
                   have HC46 := Aside0.mk H
                   clear H
                   obtain ⟨Ao47, co47, eo47⟩ := Kd.V_slice HO_485002.out
                   subst eo47
                   obtain ⟨Ao48, co48, eo48⟩ := Kd.V_slice HO_485003.out
                   subst eo48
                   try go_wp2
                   replace HO_7 := Aside0.mk (Kd.R_drew HO_7.out)
                   replace HO_8 := Aside0.mk (Kd.R_drew HO_8.out)
                   replace HO_485002 := Aside0.mk (Kd.V_drew HO_485002.out)
                   replace HO_485003 := Aside0.mk (Kd.V_drew HO_485003.out)
                   replace BK481 := Aside0.mk (blk_drew BK481.out)
                   replace BK484 := Aside0.mk (blk_drew BK484.out)
                   replace HB := Aside0.mk (below_drew1 HB.out)
                   have p493 : 0 ≤ (x9_2 : Int) := of_decide_eq_true (by first | (with_reducible assumption) | assumption)
                   have q493 : x9_2 < (l1.length : Int) := of_decide_eq_true (by first | (with_reducible assumption) | assumption)
                   obtain ⟨ad493, e493, hx493_0, hx493_1⟩ := at_T45 HR1.out x9_2 p493 q493
                   have hw493_1 := hx493_1
                   have hw493_0 := hx493_0
                   obtain rfl : ad490 = ad493 := (by injection e493)
                   replace hx493_0 := (HB.out.cell (World.block_lt_of_cell? w _ hx493_0)).trans hx493_0
                   replace hx493_1 := (HB.out.cell (World.block_lt_of_cell? w _ hx493_1)).trans hx493_1
                   replace p493 := eq_true p493
                   replace q493 := eq_true q493
                   refine start_ (n := 16) (S := fun w' => w'.cell? ⟨gb481, 0, none⟩ = some (.int .i64 a0_0) ∧ w'.cell? ⟨gb481, 1, none⟩ = some (.int .i64 a0_1) ∧ w'.cell? ⟨gb481, 2, none⟩ = some (.int .i64 a0_2) ∧ w'.cell? ⟨gb481, 3, none⟩ = some (.int .i64 a0_3) ∧ w'.cell? ⟨gb484, 0, none⟩ = some (.int .i64 x485000_2) ∧ w'.cell? ⟨gb484, 1, none⟩ = some (.int .i64 x485001_2) ∧ w'.cell? ⟨gb484, 2, none⟩ = some (.slice Ao47 x485002_2.length co47) ∧ w'.cell? ⟨gb484, 3, none⟩ = some (.slice Ao48 x485003_2.length co48) ∧ w'.cell? (ad490.add ((x9_2).toNat * 2)) = some (.int .i64 ((rd_T45 l1 x9_2).f0)) ∧ w'.cell? ⟨(ad490.add ((x9_2).toNat * 2)).block, (ad490.add ((x9_2).toNat * 2)).off + 1, none⟩ = some (.int .i64 ((rd_T45 l1 x9_2).f1))) (ds := []) #[false, false, false, false, false, false, false, false, false, false, false, false, false, false, false, false] (by kernel_rfl) rfl rfl ⟨(blk_cell BK481.out 0).trans rfl, (blk_cell BK481.out 1).trans rfl, (blk_cell BK481.out 2).trans rfl, (blk_cell BK481.out 3).trans rfl, (blk_cell BK484.out 0).trans rfl, (blk_cell BK484.out 1).trans rfl, (blk_cell BK484.out 2).trans rfl, (blk_cell BK484.out 3).trans rfl, ((HB.out.cell (World.block_lt_of_cell? w _ hw493_0)).trans hw493_0), ((HB.out.cell (World.block_lt_of_cell? w _ hw493_1)).trans hw493_1)⟩ (fun hHeld => ?_); refine with_tabW sandglasslaw13_ExactRate.tab19 sandglasslaw13_ExactRate.bits19 (fun HT_ HW_ => ?_)
                   generalize wr.drew = w49 at HO_7 HO_8 HO_485002 HO_485003 BK481 BK484 HB hx493_0 hx493_1 hHeld ⊢
                   refine pureA 2 89 HT_ ?_
                   refine pureA 3 90 HT_ ?_
                   refine pureA 4 91 HT_ ?_
                   refine pureA 5 92 HT_ ?_
                   refine pureA 6 93 HT_ ?_
                   refine takeA 0 87 HT_ HW_ hHeld ?_
                   refine takeA 1 88 HT_ HW_ hHeld ?_
                   refine takeA 7 94 HT_ HW_ hHeld ?_
                   refine join_ (σ := Value × Value × Nat × Nat) 2 #[true, true, true, true, true, true, true, true, true, true, true, true, true, true, false, false] (fun s_ => [(95, .tuple #[.agg #[.int .i64 t494, .int .i64 t495, s_.1, s_.2.1], .agg #[.bool t502, .int .i64 t503, .int .i64 t504, .int .i64 t505]]), (12, .pointer (some ⟨s_.2.2.1, 0, none⟩)), (13, .pointer (some ⟨s_.2.2.2, 0, none⟩)), (86, .tuple #[.agg #[.int .i64 t494, .int .i64 t495, s_.1, s_.2.1], .agg #[.bool t502, .int .i64 t503, .int .i64 t504, .int .i64 t505]]), (96, .agg #[.int .i64 t494, .int .i64 t495, s_.1, s_.2.1]), (97, .agg #[.bool t502, .int .i64 t503, .int .i64 t504, .int .i64 t505])]) (fun s_ w' => (w'.cell? ⟨gb481, 0, none⟩ = some (.int .i64 a0_0) ∧ w'.cell? ⟨gb481, 1, none⟩ = some (.int .i64 a0_1) ∧ w'.cell? ⟨gb481, 2, none⟩ = some (.int .i64 a0_2) ∧ w'.cell? ⟨gb481, 3, none⟩ = some (.int .i64 a0_3) ∧ w'.cell? ⟨gb484, 0, none⟩ = some (.int .i64 x485000_2) ∧ w'.cell? ⟨gb484, 1, none⟩ = some (.int .i64 x485001_2) ∧ w'.cell? ⟨gb484, 2, none⟩ = some (.slice Ao47 x485002_2.length co47) ∧ w'.cell? ⟨gb484, 3, none⟩ = some (.slice Ao48 x485003_2.length co48) ∧ w'.cell? (ad490.add ((x9_2).toNat * 2)) = some (.int .i64 ((rd_T45 l1 x9_2).f0)) ∧ w'.cell? ⟨(ad490.add ((x9_2).toNat * 2)).block, (ad490.add ((x9_2).toNat * 2)).off + 1, none⟩ = some (.int .i64 ((rd_T45 l1 x9_2).f1))) ∧ (Kd.V (Kd.int .i64) 3 w' w.heap.size (fun k_ => some k_ ≠ (u7 : Value).ownBlock ∧ some k_ ≠ (u8 : Value).ownBlock ∧ k_ ≠ gb481 ∧ k_ ≠ gb484 ∧ k_ ≠ s_.2.2.1 ∧ k_ ≠ s_.2.2.2) s_.1 t496) ∧ (Kd.V k50 50 w' w.heap.size (fun k_ => some k_ ≠ (u7 : Value).ownBlock ∧ some k_ ≠ (u8 : Value).ownBlock ∧ k_ ≠ gb481 ∧ k_ ≠ gb484 ∧ k_ ≠ s_.2.2.1 ∧ k_ ≠ s_.2.2.2) s_.2.1 t499) ∧ (Kd.V (Kd.int .i64) 3 w' w.heap.size (fun k_ => some k_ ≠ (u7 : Value).ownBlock ∧ some k_ ≠ (u8 : Value).ownBlock ∧ k_ ≠ gb481 ∧ k_ ≠ gb484 ∧ k_ ≠ s_.2.2.1 ∧ k_ ≠ s_.2.2.2) (.slice Ao47 x485002_2.length co47) x485002_2) ∧ (Kd.V k50 50 w' w.heap.size (fun k_ => some k_ ≠ (u7 : Value).ownBlock ∧ some k_ ≠ (u8 : Value).ownBlock ∧ k_ ≠ gb481 ∧ k_ ≠ gb484 ∧ k_ ≠ s_.2.2.1 ∧ k_ ≠ s_.2.2.2) (.slice Ao48 x485003_2.length co48) x485003_2) ∧ (Kd.R (Kd.int .i64) 3 w' w.heap.size (fun k_ => some k_ ≠ (u8 : Value).ownBlock) u7 x7_2) ∧ (Kd.R (Kd.int .i64) 3 w' w.heap.size (fun k_ => some k_ ≠ (u7 : Value).ownBlock) u8 x8_2) ∧ (w'.heap[gb481]? = some (.cells #[.int .i64 a0_0, .int .i64 a0_1, .int .i64 a0_2, .int .i64 a0_3] 23 (0, 0))) ∧ (w'.heap[gb484]? = some (.cells #[.int .i64 x485000_2, .int .i64 x485001_2, .slice Ao47 x485002_2.length co47, .slice Ao48 x485003_2.length co48] 27 (0, 0))) ∧ (w'.heap[s_.2.2.1]? = some (.cells #[.int .i64 0, .int .i64 0, .slice none 0 0, .slice none 0 0] 27 (0, 0))) ∧ (w'.heap[s_.2.2.2]? = some (.cells #[.bool false, .int .i64 0, .int .i64 0, .int .i64 0] 32 (0, 0))) ∧ (w.heap.size ≤ s_.2.2.1) ∧ (w.heap.size ≤ s_.2.2.1) ∧ (gb481 ≠ s_.2.2.1) ∧ (s_.2.2.1 ≠ gb481) ∧ (gb484 ≠ s_.2.2.1) ∧ (s_.2.2.1 ≠ gb484) ∧ (s_.2.2.2 ≠ s_.2.2.1) ∧ (s_.2.2.1 ≠ s_.2.2.2) ∧ (w.heap.size ≤ s_.2.2.2) ∧ (w.heap.size ≤ s_.2.2.2) ∧ (gb481 ≠ s_.2.2.2) ∧ (s_.2.2.2 ≠ gb481) ∧ (gb484 ≠ s_.2.2.2) ∧ (s_.2.2.2 ≠ gb484) ∧ (Below w.heap.size w w')) ?_ ?_
                   rotate_left
                   ·intro hJ8_12_13
                    refine join_ (σ := Value × Value × Nat) 3 #[true, true, true, true, true, true, true, true, true, true, true, true, true, false, false, false] (fun s_ => [(95, .tuple #[.agg #[.int .i64 t494, .int .i64 t495, s_.1, s_.2.1], .agg #[.bool t502, .int .i64 t503, .int .i64 t504, .int .i64 t505]]), (12, .pointer (some ⟨s_.2.2, 0, none⟩)), (86, .tuple #[.agg #[.int .i64 t494, .int .i64 t495, s_.1, s_.2.1], .agg #[.bool t502, .int .i64 t503, .int .i64 t504, .int .i64 t505]]), (96, .agg #[.int .i64 t494, .int .i64 t495, s_.1, s_.2.1]), (97, .agg #[.bool t502, .int .i64 t503, .int .i64 t504, .int .i64 t505])]) (fun s_ w' => (w'.cell? ⟨gb481, 0, none⟩ = some (.int .i64 a0_0) ∧ w'.cell? ⟨gb481, 1, none⟩ = some (.int .i64 a0_1) ∧ w'.cell? ⟨gb481, 2, none⟩ = some (.int .i64 a0_2) ∧ w'.cell? ⟨gb481, 3, none⟩ = some (.int .i64 a0_3) ∧ w'.cell? ⟨gb484, 0, none⟩ = some (.int .i64 x485000_2) ∧ w'.cell? ⟨gb484, 1, none⟩ = some (.int .i64 x485001_2) ∧ w'.cell? ⟨gb484, 2, none⟩ = some (.slice Ao47 x485002_2.length co47) ∧ w'.cell? ⟨gb484, 3, none⟩ = some (.slice Ao48 x485003_2.length co48) ∧ w'.cell? (ad490.add ((x9_2).toNat * 2)) = some (.int .i64 ((rd_T45 l1 x9_2).f0)) ∧ w'.cell? ⟨(ad490.add ((x9_2).toNat * 2)).block, (ad490.add ((x9_2).toNat * 2)).off + 1, none⟩ = some (.int .i64 ((rd_T45 l1 x9_2).f1))) ∧ (Kd.V (Kd.int .i64) 3 w' w.heap.size (fun k_ => some k_ ≠ (u7 : Value).ownBlock ∧ some k_ ≠ (u8 : Value).ownBlock ∧ k_ ≠ gb481 ∧ k_ ≠ gb484 ∧ k_ ≠ s_.2.2) s_.1 t496) ∧ (Kd.V k50 50 w' w.heap.size (fun k_ => some k_ ≠ (u7 : Value).ownBlock ∧ some k_ ≠ (u8 : Value).ownBlock ∧ k_ ≠ gb481 ∧ k_ ≠ gb484 ∧ k_ ≠ s_.2.2) s_.2.1 t499) ∧ (Kd.V (Kd.int .i64) 3 w' w.heap.size (fun k_ => some k_ ≠ (u7 : Value).ownBlock ∧ some k_ ≠ (u8 : Value).ownBlock ∧ k_ ≠ gb481 ∧ k_ ≠ gb484 ∧ k_ ≠ s_.2.2) (.slice Ao47 x485002_2.length co47) x485002_2) ∧ (Kd.V k50 50 w' w.heap.size (fun k_ => some k_ ≠ (u7 : Value).ownBlock ∧ some k_ ≠ (u8 : Value).ownBlock ∧ k_ ≠ gb481 ∧ k_ ≠ gb484 ∧ k_ ≠ s_.2.2) (.slice Ao48 x485003_2.length co48) x485003_2) ∧ (Kd.R (Kd.int .i64) 3 w' w.heap.size (fun k_ => some k_ ≠ (u8 : Value).ownBlock) u7 x7_2) ∧ (Kd.R (Kd.int .i64) 3 w' w.heap.size (fun k_ => some k_ ≠ (u7 : Value).ownBlock) u8 x8_2) ∧ (w'.heap[gb481]? = some (.cells #[.int .i64 a0_0, .int .i64 a0_1, .int .i64 a0_2, .int .i64 a0_3] 23 (0, 0))) ∧ (w'.heap[gb484]? = some (.cells #[.int .i64 x485000_2, .int .i64 x485001_2, .slice Ao47 x485002_2.length co47, .slice Ao48 x485003_2.length co48] 27 (0, 0))) ∧ (w'.heap[s_.2.2]? = some (.cells #[.int .i64 0, .int .i64 0, .slice none 0 0, .slice none 0 0] 27 (0, 0))) ∧ (w.heap.size ≤ s_.2.2) ∧ (w.heap.size ≤ s_.2.2) ∧ (gb481 ≠ s_.2.2) ∧ (s_.2.2 ≠ gb481) ∧ (gb484 ≠ s_.2.2) ∧ (s_.2.2 ≠ gb484) ∧ (Below w.heap.size w w')) ?_ ?_
                    rotate_left
                    ·intro hJ8_12
                     refine join_ (σ := Value × Value × Nat) 3 #[true, true, true, true, true, true, true, true, true, true, true, true, false, true, false, false] (fun s_ => [(95, .tuple #[.agg #[.int .i64 t494, .int .i64 t495, s_.1, s_.2.1], .agg #[.bool t502, .int .i64 t503, .int .i64 t504, .int .i64 t505]]), (13, .pointer (some ⟨s_.2.2, 0, none⟩)), (86, .tuple #[.agg #[.int .i64 t494, .int .i64 t495, s_.1, s_.2.1], .agg #[.bool t502, .int .i64 t503, .int .i64 t504, .int .i64 t505]]), (96, .agg #[.int .i64 t494, .int .i64 t495, s_.1, s_.2.1]), (97, .agg #[.bool t502, .int .i64 t503, .int .i64 t504, .int .i64 t505])]) (fun s_ w' => (w'.cell? ⟨gb481, 0, none⟩ = some (.int .i64 a0_0) ∧ w'.cell? ⟨gb481, 1, none⟩ = some (.int .i64 a0_1) ∧ w'.cell? ⟨gb481, 2, none⟩ = some (.int .i64 a0_2) ∧ w'.cell? ⟨gb481, 3, none⟩ = some (.int .i64 a0_3) ∧ w'.cell? ⟨gb484, 0, none⟩ = some (.int .i64 x485000_2) ∧ w'.cell? ⟨gb484, 1, none⟩ = some (.int .i64 x485001_2) ∧ w'.cell? ⟨gb484, 2, none⟩ = some (.slice Ao47 x485002_2.length co47) ∧ w'.cell? ⟨gb484, 3, none⟩ = some (.slice Ao48 x485003_2.length co48) ∧ w'.cell? (ad490.add ((x9_2).toNat * 2)) = some (.int .i64 ((rd_T45 l1 x9_2).f0)) ∧ w'.cell? ⟨(ad490.add ((x9_2).toNat * 2)).block, (ad490.add ((x9_2).toNat * 2)).off + 1, none⟩ = some (.int .i64 ((rd_T45 l1 x9_2).f1))) ∧ (Kd.V (Kd.int .i64) 3 w' w.heap.size (fun k_ => some k_ ≠ (u7 : Value).ownBlock ∧ some k_ ≠ (u8 : Value).ownBlock ∧ k_ ≠ gb481 ∧ k_ ≠ gb484 ∧ k_ ≠ s_.2.2) s_.1 t496) ∧ (Kd.V k50 50 w' w.heap.size (fun k_ => some k_ ≠ (u7 : Value).ownBlock ∧ some k_ ≠ (u8 : Value).ownBlock ∧ k_ ≠ gb481 ∧ k_ ≠ gb484 ∧ k_ ≠ s_.2.2) s_.2.1 t499) ∧ (Kd.V (Kd.int .i64) 3 w' w.heap.size (fun k_ => some k_ ≠ (u7 : Value).ownBlock ∧ some k_ ≠ (u8 : Value).ownBlock ∧ k_ ≠ gb481 ∧ k_ ≠ gb484 ∧ k_ ≠ s_.2.2) (.slice Ao47 x485002_2.length co47) x485002_2) ∧ (Kd.V k50 50 w' w.heap.size (fun k_ => some k_ ≠ (u7 : Value).ownBlock ∧ some k_ ≠ (u8 : Value).ownBlock ∧ k_ ≠ gb481 ∧ k_ ≠ gb484 ∧ k_ ≠ s_.2.2) (.slice Ao48 x485003_2.length co48) x485003_2) ∧ (Kd.R (Kd.int .i64) 3 w' w.heap.size (fun k_ => some k_ ≠ (u8 : Value).ownBlock) u7 x7_2) ∧ (Kd.R (Kd.int .i64) 3 w' w.heap.size (fun k_ => some k_ ≠ (u7 : Value).ownBlock) u8 x8_2) ∧ (w'.heap[gb481]? = some (.cells #[.int .i64 a0_0, .int .i64 a0_1, .int .i64 a0_2, .int .i64 a0_3] 23 (0, 0))) ∧ (w'.heap[gb484]? = some (.cells #[.int .i64 x485000_2, .int .i64 x485001_2, .slice Ao47 x485002_2.length co47, .slice Ao48 x485003_2.length co48] 27 (0, 0))) ∧ (w'.heap[s_.2.2]? = some (.cells #[.bool false, .int .i64 0, .int .i64 0, .int .i64 0] 32 (0, 0))) ∧ (w.heap.size ≤ s_.2.2) ∧ (w.heap.size ≤ s_.2.2) ∧ (gb481 ≠ s_.2.2) ∧ (s_.2.2 ≠ gb481) ∧ (gb484 ≠ s_.2.2) ∧ (s_.2.2 ≠ gb484) ∧ (Below w.heap.size w w')) ?_ ?_
                     rotate_left
                     ·intro hJ8_13
                      refine join_ (σ := Nat × Nat) 6 #[true, true, true, true, true, true, true, true, false, false, false, false, true, true, false, false] (fun s_ => [(12, .pointer (some ⟨s_.1, 0, none⟩)), (13, .pointer (some ⟨s_.2, 0, none⟩))]) (fun s_ w' => (w'.cell? ⟨gb481, 0, none⟩ = some (.int .i64 a0_0) ∧ w'.cell? ⟨gb481, 1, none⟩ = some (.int .i64 a0_1) ∧ w'.cell? ⟨gb481, 2, none⟩ = some (.int .i64 a0_2) ∧ w'.cell? ⟨gb481, 3, none⟩ = some (.int .i64 a0_3) ∧ w'.cell? ⟨gb484, 0, none⟩ = some (.int .i64 x485000_2) ∧ w'.cell? ⟨gb484, 1, none⟩ = some (.int .i64 x485001_2) ∧ w'.cell? ⟨gb484, 2, none⟩ = some (.slice Ao47 x485002_2.length co47) ∧ w'.cell? ⟨gb484, 3, none⟩ = some (.slice Ao48 x485003_2.length co48) ∧ w'.cell? (ad490.add ((x9_2).toNat * 2)) = some (.int .i64 ((rd_T45 l1 x9_2).f0)) ∧ w'.cell? ⟨(ad490.add ((x9_2).toNat * 2)).block, (ad490.add ((x9_2).toNat * 2)).off + 1, none⟩ = some (.int .i64 ((rd_T45 l1 x9_2).f1))) ∧ (Kd.V (Kd.int .i64) 3 w' w.heap.size (fun k_ => some k_ ≠ (u7 : Value).ownBlock ∧ some k_ ≠ (u8 : Value).ownBlock ∧ k_ ≠ gb481 ∧ k_ ≠ gb484 ∧ k_ ≠ s_.1 ∧ k_ ≠ s_.2) (.slice Ao47 x485002_2.length co47) x485002_2) ∧ (Kd.V k50 50 w' w.heap.size (fun k_ => some k_ ≠ (u7 : Value).ownBlock ∧ some k_ ≠ (u8 : Value).ownBlock ∧ k_ ≠ gb481 ∧ k_ ≠ gb484 ∧ k_ ≠ s_.1 ∧ k_ ≠ s_.2) (.slice Ao48 x485003_2.length co48) x485003_2) ∧ (Kd.R (Kd.int .i64) 3 w' w.heap.size (fun k_ => some k_ ≠ (u8 : Value).ownBlock) u7 x7_2) ∧ (Kd.R (Kd.int .i64) 3 w' w.heap.size (fun k_ => some k_ ≠ (u7 : Value).ownBlock) u8 x8_2) ∧ (w'.heap[gb481]? = some (.cells #[.int .i64 a0_0, .int .i64 a0_1, .int .i64 a0_2, .int .i64 a0_3] 23 (0, 0))) ∧ (w'.heap[gb484]? = some (.cells #[.int .i64 x485000_2, .int .i64 x485001_2, .slice Ao47 x485002_2.length co47, .slice Ao48 x485003_2.length co48] 27 (0, 0))) ∧ (w'.heap[s_.1]? = some (.cells #[.int .i64 0, .int .i64 0, .slice none 0 0, .slice none 0 0] 27 (0, 0))) ∧ (w'.heap[s_.2]? = some (.cells #[.bool false, .int .i64 0, .int .i64 0, .int .i64 0] 32 (0, 0))) ∧ (w.heap.size ≤ s_.1) ∧ (w.heap.size ≤ s_.1) ∧ (gb481 ≠ s_.1) ∧ (s_.1 ≠ gb481) ∧ (gb484 ≠ s_.1) ∧ (s_.1 ≠ gb484) ∧ (s_.2 ≠ s_.1) ∧ (s_.1 ≠ s_.2) ∧ (w.heap.size ≤ s_.2) ∧ (w.heap.size ≤ s_.2) ∧ (gb481 ≠ s_.2) ∧ (s_.2 ≠ gb481) ∧ (gb484 ≠ s_.2) ∧ (s_.2 ≠ gb484) ∧ (Below w.heap.size w w')) ?_ ?_
                      rotate_left
                      ·intro hJ12_13
                       refine join_ (σ := Value × Value) 4 #[true, true, true, true, true, true, true, true, true, true, true, true, false, false, false, false] (fun s_ => [(95, .tuple #[.agg #[.int .i64 t494, .int .i64 t495, s_.1, s_.2], .agg #[.bool t502, .int .i64 t503, .int .i64 t504, .int .i64 t505]]), (86, .tuple #[.agg #[.int .i64 t494, .int .i64 t495, s_.1, s_.2], .agg #[.bool t502, .int .i64 t503, .int .i64 t504, .int .i64 t505]]), (96, .agg #[.int .i64 t494, .int .i64 t495, s_.1, s_.2]), (97, .agg #[.bool t502, .int .i64 t503, .int .i64 t504, .int .i64 t505])]) (fun s_ w' => (w'.cell? ⟨gb481, 0, none⟩ = some (.int .i64 a0_0) ∧ w'.cell? ⟨gb481, 1, none⟩ = some (.int .i64 a0_1) ∧ w'.cell? ⟨gb481, 2, none⟩ = some (.int .i64 a0_2) ∧ w'.cell? ⟨gb481, 3, none⟩ = some (.int .i64 a0_3) ∧ w'.cell? ⟨gb484, 0, none⟩ = some (.int .i64 x485000_2) ∧ w'.cell? ⟨gb484, 1, none⟩ = some (.int .i64 x485001_2) ∧ w'.cell? ⟨gb484, 2, none⟩ = some (.slice Ao47 x485002_2.length co47) ∧ w'.cell? ⟨gb484, 3, none⟩ = some (.slice Ao48 x485003_2.length co48) ∧ w'.cell? (ad490.add ((x9_2).toNat * 2)) = some (.int .i64 ((rd_T45 l1 x9_2).f0)) ∧ w'.cell? ⟨(ad490.add ((x9_2).toNat * 2)).block, (ad490.add ((x9_2).toNat * 2)).off + 1, none⟩ = some (.int .i64 ((rd_T45 l1 x9_2).f1))) ∧ (Kd.V (Kd.int .i64) 3 w' w.heap.size (fun k_ => some k_ ≠ (u7 : Value).ownBlock ∧ some k_ ≠ (u8 : Value).ownBlock ∧ k_ ≠ gb481 ∧ k_ ≠ gb484) s_.1 t496) ∧ (Kd.V k50 50 w' w.heap.size (fun k_ => some k_ ≠ (u7 : Value).ownBlock ∧ some k_ ≠ (u8 : Value).ownBlock ∧ k_ ≠ gb481 ∧ k_ ≠ gb484) s_.2 t499) ∧ (Kd.V (Kd.int .i64) 3 w' w.heap.size (fun k_ => some k_ ≠ (u7 : Value).ownBlock ∧ some k_ ≠ (u8 : Value).ownBlock ∧ k_ ≠ gb481 ∧ k_ ≠ gb484) (.slice Ao47 x485002_2.length co47) x485002_2) ∧ (Kd.V k50 50 w' w.heap.size (fun k_ => some k_ ≠ (u7 : Value).ownBlock ∧ some k_ ≠ (u8 : Value).ownBlock ∧ k_ ≠ gb481 ∧ k_ ≠ gb484) (.slice Ao48 x485003_2.length co48) x485003_2) ∧ (Kd.R (Kd.int .i64) 3 w' w.heap.size (fun k_ => some k_ ≠ (u8 : Value).ownBlock) u7 x7_2) ∧ (Kd.R (Kd.int .i64) 3 w' w.heap.size (fun k_ => some k_ ≠ (u7 : Value).ownBlock) u8 x8_2) ∧ (w'.heap[gb481]? = some (.cells #[.int .i64 a0_0, .int .i64 a0_1, .int .i64 a0_2, .int .i64 a0_3] 23 (0, 0))) ∧ (w'.heap[gb484]? = some (.cells #[.int .i64 x485000_2, .int .i64 x485001_2, .slice Ao47 x485002_2.length co47, .slice Ao48 x485003_2.length co48] 27 (0, 0))) ∧ (Below w.heap.size w w')) ?_ ?_
                       rotate_left
                       ·intro hJ8
                        refine join_ (σ := Nat) 7 #[true, true, true, true, true, true, true, true, false, false, false, false, true, false, false, false] (fun s_ => [(12, .pointer (some ⟨s_, 0, none⟩))]) (fun s_ w' => (w'.cell? ⟨gb481, 0, none⟩ = some (.int .i64 a0_0) ∧ w'.cell? ⟨gb481, 1, none⟩ = some (.int .i64 a0_1) ∧ w'.cell? ⟨gb481, 2, none⟩ = some (.int .i64 a0_2) ∧ w'.cell? ⟨gb481, 3, none⟩ = some (.int .i64 a0_3) ∧ w'.cell? ⟨gb484, 0, none⟩ = some (.int .i64 x485000_2) ∧ w'.cell? ⟨gb484, 1, none⟩ = some (.int .i64 x485001_2) ∧ w'.cell? ⟨gb484, 2, none⟩ = some (.slice Ao47 x485002_2.length co47) ∧ w'.cell? ⟨gb484, 3, none⟩ = some (.slice Ao48 x485003_2.length co48) ∧ w'.cell? (ad490.add ((x9_2).toNat * 2)) = some (.int .i64 ((rd_T45 l1 x9_2).f0)) ∧ w'.cell? ⟨(ad490.add ((x9_2).toNat * 2)).block, (ad490.add ((x9_2).toNat * 2)).off + 1, none⟩ = some (.int .i64 ((rd_T45 l1 x9_2).f1))) ∧ (Kd.V (Kd.int .i64) 3 w' w.heap.size (fun k_ => some k_ ≠ (u7 : Value).ownBlock ∧ some k_ ≠ (u8 : Value).ownBlock ∧ k_ ≠ gb481 ∧ k_ ≠ gb484 ∧ k_ ≠ s_) (.slice Ao47 x485002_2.length co47) x485002_2) ∧ (Kd.V k50 50 w' w.heap.size (fun k_ => some k_ ≠ (u7 : Value).ownBlock ∧ some k_ ≠ (u8 : Value).ownBlock ∧ k_ ≠ gb481 ∧ k_ ≠ gb484 ∧ k_ ≠ s_) (.slice Ao48 x485003_2.length co48) x485003_2) ∧ (Kd.R (Kd.int .i64) 3 w' w.heap.size (fun k_ => some k_ ≠ (u8 : Value).ownBlock) u7 x7_2) ∧ (Kd.R (Kd.int .i64) 3 w' w.heap.size (fun k_ => some k_ ≠ (u7 : Value).ownBlock) u8 x8_2) ∧ (w'.heap[gb481]? = some (.cells #[.int .i64 a0_0, .int .i64 a0_1, .int .i64 a0_2, .int .i64 a0_3] 23 (0, 0))) ∧ (w'.heap[gb484]? = some (.cells #[.int .i64 x485000_2, .int .i64 x485001_2, .slice Ao47 x485002_2.length co47, .slice Ao48 x485003_2.length co48] 27 (0, 0))) ∧ (w'.heap[s_]? = some (.cells #[.int .i64 0, .int .i64 0, .slice none 0 0, .slice none 0 0] 27 (0, 0))) ∧ (w.heap.size ≤ s_) ∧ (w.heap.size ≤ s_) ∧ (gb481 ≠ s_) ∧ (s_ ≠ gb481) ∧ (gb484 ≠ s_) ∧ (s_ ≠ gb484) ∧ (Below w.heap.size w w')) ?_ ?_
                        rotate_left
                        ·intro hJ12
                         refine join_ (σ := Nat) 7 #[true, true, true, true, true, true, true, true, false, false, false, false, false, true, false, false] (fun s_ => [(13, .pointer (some ⟨s_, 0, none⟩))]) (fun s_ w' => (w'.cell? ⟨gb481, 0, none⟩ = some (.int .i64 a0_0) ∧ w'.cell? ⟨gb481, 1, none⟩ = some (.int .i64 a0_1) ∧ w'.cell? ⟨gb481, 2, none⟩ = some (.int .i64 a0_2) ∧ w'.cell? ⟨gb481, 3, none⟩ = some (.int .i64 a0_3) ∧ w'.cell? ⟨gb484, 0, none⟩ = some (.int .i64 x485000_2) ∧ w'.cell? ⟨gb484, 1, none⟩ = some (.int .i64 x485001_2) ∧ w'.cell? ⟨gb484, 2, none⟩ = some (.slice Ao47 x485002_2.length co47) ∧ w'.cell? ⟨gb484, 3, none⟩ = some (.slice Ao48 x485003_2.length co48) ∧ w'.cell? (ad490.add ((x9_2).toNat * 2)) = some (.int .i64 ((rd_T45 l1 x9_2).f0)) ∧ w'.cell? ⟨(ad490.add ((x9_2).toNat * 2)).block, (ad490.add ((x9_2).toNat * 2)).off + 1, none⟩ = some (.int .i64 ((rd_T45 l1 x9_2).f1))) ∧ (Kd.V (Kd.int .i64) 3 w' w.heap.size (fun k_ => some k_ ≠ (u7 : Value).ownBlock ∧ some k_ ≠ (u8 : Value).ownBlock ∧ k_ ≠ gb481 ∧ k_ ≠ gb484 ∧ k_ ≠ s_) (.slice Ao47 x485002_2.length co47) x485002_2) ∧ (Kd.V k50 50 w' w.heap.size (fun k_ => some k_ ≠ (u7 : Value).ownBlock ∧ some k_ ≠ (u8 : Value).ownBlock ∧ k_ ≠ gb481 ∧ k_ ≠ gb484 ∧ k_ ≠ s_) (.slice Ao48 x485003_2.length co48) x485003_2) ∧ (Kd.R (Kd.int .i64) 3 w' w.heap.size (fun k_ => some k_ ≠ (u8 : Value).ownBlock) u7 x7_2) ∧ (Kd.R (Kd.int .i64) 3 w' w.heap.size (fun k_ => some k_ ≠ (u7 : Value).ownBlock) u8 x8_2) ∧ (w'.heap[gb481]? = some (.cells #[.int .i64 a0_0, .int .i64 a0_1, .int .i64 a0_2, .int .i64 a0_3] 23 (0, 0))) ∧ (w'.heap[gb484]? = some (.cells #[.int .i64 x485000_2, .int .i64 x485001_2, .slice Ao47 x485002_2.length co47, .slice Ao48 x485003_2.length co48] 27 (0, 0))) ∧ (w'.heap[s_]? = some (.cells #[.bool false, .int .i64 0, .int .i64 0, .int .i64 0] 32 (0, 0))) ∧ (w.heap.size ≤ s_) ∧ (w.heap.size ≤ s_) ∧ (gb481 ≠ s_) ∧ (s_ ≠ gb481) ∧ (gb484 ≠ s_) ∧ (s_ ≠ gb484) ∧ (Below w.heap.size w w')) ?_ ?_
                         rotate_left
                         ·intro hJ13
                          refine three_ (i := 8) (j := 12) (k := 13) (Ni := some 95) (Nj := some 12) (Nk := some 13) #[true, true, true, true, true, true, true, true, true, false, false, false, false, false, false, false] #[true, true, true, true, true, true, true, true, false, false, false, false, true, false, false, false] #[true, true, true, true, true, true, true, true, false, false, false, false, false, true, false, false] rfl rfl rfl rfl rfl rfl (three_of HT_.out (by kernel_rfl)) (by decide) (by decide) (by decide) (fun K hK => ?_) (fun K hK => ?_) (fun K hK => ?_)
                          ·skip
                           refine goes_ Try.func10 (by kernel_rfl) rfl #[.agg #[.int .i64 a0_0, .int .i64 a0_1, .int .i64 a0_2, .int .i64 a0_3], .agg #[.int .i64 x485000_2, .int .i64 x485001_2, .slice Ao47 x485002_2.length co47, .slice Ao48 x485003_2.length co48], .int .i64 (wrap64 (x6_2 + ((rd_T45 l1 x9_2).f0))), .int .i64 ((rd_T45 l1 x9_2).f1)] (by rfl) rfl rfl (by (try simp only [List.map_toArray, List.map_cons, List.map_nil]); first | done | rfl | (simp only [List.length_drop, List.length_take]; rfl)) ?_
                           with_reducible refine (exact_Ask.calls k4 a0_0 a0_1 a0_2 a0_3 x485000_2 x485001_2 (fun k_ => (some k_ ≠ (u7 : Value).ownBlock ∧ (some k_ ≠ (u8 : Value).ownBlock ∧ (k_ ≠ gb481 ∧ k_ ≠ gb484)))) _ _ x485002_2 (fun k_ => (some k_ ≠ (u7 : Value).ownBlock ∧ (some k_ ≠ (u8 : Value).ownBlock ∧ (k_ ≠ gb481 ∧ k_ ≠ gb484)))) _ _ x485003_2 (wrap64 (x6_2 + ((rd_T45 l1 x9_2).f0))) ((rd_T45 l1 x9_2).f1) t494 t495 t496 t499 t502 t503 t504 t505 _ ?side1 ?side2 A43.out).mono ?_
                           (case side1 => exact HO_485002.out)
                           (case side2 => exact HO_485003.out)
                           rintro e w50 ⟨v497, v500, rfl, ho0, ho1, hb⟩
                           refine ⟨_, rfl, ?_⟩
                           have HO498 := Aside0.mk (Kd.V_lower (Kd.V_mono (ok' := fun k_ => some k_ ≠ (u7 : Value).ownBlock ∧ some k_ ≠ (u8 : Value).ownBlock ∧ k_ ≠ gb481 ∧ k_ ≠ gb484) ho0 (fun k_ hk_ => ⟨Or.elim hk_ (fun hs_ => Or.elim hs_ (fun hs_ => hs_.1) (fun hs_ => hs_.1)) (fun hn_ => (Kd.fresh' (Kd.R_lt (by (with_reducible repeat (first | apply Kd.R_alloc | apply Kd.R_drewN | apply Kd.R_drew)); exact HO_7.out)) k_ hn_)), Or.elim hk_ (fun hs_ => Or.elim hs_ (fun hs_ => hs_.2.1) (fun hs_ => hs_.2.1)) (fun hn_ => (Kd.fresh' (Kd.R_lt (by (with_reducible repeat (first | apply Kd.R_alloc | apply Kd.R_drewN | apply Kd.R_drew)); exact HO_8.out)) k_ hn_)), Or.elim hk_ (fun hs_ => Or.elim hs_ (fun hs_ => hs_.2.2.1) (fun hs_ => hs_.2.2.1)) (fun hn_ => (Kd.freshB (bo BK481) k_ hn_)), Or.elim hk_ (fun hs_ => Or.elim hs_ (fun hs_ => hs_.2.2.2) (fun hs_ => hs_.2.2.2)) (fun hn_ => (Kd.freshB (bo BK484) k_ hn_))⟩)) (below_size (bl HB)))
                           have HO501 := Aside0.mk (Kd.V_lower (Kd.V_mono (ok' := fun k_ => some k_ ≠ (u7 : Value).ownBlock ∧ some k_ ≠ (u8 : Value).ownBlock ∧ k_ ≠ gb481 ∧ k_ ≠ gb484) ho1 (fun k_ hk_ => ⟨Or.elim hk_ (fun hs_ => Or.elim hs_ (fun hs_ => hs_.1) (fun hs_ => hs_.1)) (fun hn_ => (Kd.fresh' (Kd.R_lt (by (with_reducible repeat (first | apply Kd.R_alloc | apply Kd.R_drewN | apply Kd.R_drew)); exact HO_7.out)) k_ hn_)), Or.elim hk_ (fun hs_ => Or.elim hs_ (fun hs_ => hs_.2.1) (fun hs_ => hs_.2.1)) (fun hn_ => (Kd.fresh' (Kd.R_lt (by (with_reducible repeat (first | apply Kd.R_alloc | apply Kd.R_drewN | apply Kd.R_drew)); exact HO_8.out)) k_ hn_)), Or.elim hk_ (fun hs_ => Or.elim hs_ (fun hs_ => hs_.2.2.1) (fun hs_ => hs_.2.2.1)) (fun hn_ => (Kd.freshB (bo BK481) k_ hn_)), Or.elim hk_ (fun hs_ => Or.elim hs_ (fun hs_ => hs_.2.2.2) (fun hs_ => hs_.2.2.2)) (fun hn_ => (Kd.freshB (bo BK484) k_ hn_))⟩)) (below_size (bl HB)))
                           replace HO_7 := Aside0.mk (Kd.R_below (by (with_reducible repeat (first | apply Kd.R_alloc | apply Kd.R_drewN | apply Kd.R_drew)); exact HO_7.out) hb)
                           replace HO_8 := Aside0.mk (Kd.R_below (by (with_reducible repeat (first | apply Kd.R_alloc | apply Kd.R_drewN | apply Kd.R_drew)); exact HO_8.out) hb)
                           replace HO_485002 := vb HO_485002 hb
                           replace HO_485003 := vb HO_485003 hb
                           replace BK481 := Aside0.mk (blk_below (bo BK481) hb)
                           replace BK484 := Aside0.mk (blk_below (bo BK484) hb)
                           replace HB := Aside0.mk (below_step (bl HB) hb)
                           (try clear hb)
                           (try clear hb2)
                           (try clear hk)
                           (try clear hi)
                           (try clear ho0)
                           (try clear ho1)
                           refine hK.out _ _ ⟨(blk_cell BK481.out 0).trans rfl, (blk_cell BK481.out 1).trans rfl, (blk_cell BK481.out 2).trans rfl, (blk_cell BK481.out 3).trans rfl, (blk_cell BK484.out 0).trans rfl, (blk_cell BK484.out 1).trans rfl, (blk_cell BK484.out 2).trans rfl, (blk_cell BK484.out 3).trans rfl, ((HB.out.cell (World.block_lt_of_cell? w _ hw493_0)).trans hw493_0), ((HB.out.cell (World.block_lt_of_cell? w _ hw493_1)).trans hw493_1)⟩ (fun hHeld => ?_)
                           clear hK K
                           refine norm_ (a' := ?_) ?_ ?_
                           rotate_left
                           ·show Act.put _ (some 95) _ = _
                            simp only [Act.put, List.setIfInBounds_toArray, List.set_cons_zero, List.set_cons_succ, i64_w, i32_w]
                            rfl
                           refine pureA 9 86 HT_ ?_
                           refine pureA 10 96 HT_ ?_
                           refine pureA 11 97 HT_ ?_
                           exact norm_ (by first | (simp only [putAll, Act.put, List.setIfInBounds_toArray, List.set_cons_zero, List.set_cons_succ]; done) | (simp only [putAll, Act.put, List.setIfInBounds_toArray, List.set_cons_zero, List.set_cons_succ]; rfl)) (hJ8 (v497, v500) _ ⟨hHeld, (by (with_reducible repeat (first | apply Kd.V_alloc | apply Kd.V_drewN | apply Kd.V_drew)); exact HO498.out), (by (with_reducible repeat (first | apply Kd.V_alloc | apply Kd.V_drewN | apply Kd.V_drew)); exact HO501.out), (by (with_reducible repeat (first | apply Kd.V_alloc | apply Kd.V_drewN | apply Kd.V_drew)); exact HO_485002.out), (by (with_reducible repeat (first | apply Kd.V_alloc | apply Kd.V_drewN | apply Kd.V_drew)); exact HO_485003.out), (by (with_reducible repeat (first | apply Kd.R_alloc | apply Kd.R_drewN | apply Kd.R_drew)); exact HO_7.out), (by (with_reducible repeat (first | apply Kd.R_alloc | apply Kd.R_drewN | apply Kd.R_drew)); exact HO_8.out), (bo BK481), (bo BK484), (bl HB)⟩)
                          ·skip
                           refine box_step ?hg (N := 12) ?hd (cs := #[.int .i64 0, .int .i64 0, .slice none 0 0, .slice none 0 0]) (t := 27) ?hr ?_; (case hd => rfl); (case hg => rfl); (case hr => first | (go_simp; done) | (go_simp; rfl))
                           intro gb506 hg w50 hbox hb
                           have BK506 := Aside0.mk (hbox)
                           have GW506 := Aside0.mk ((by rw [hg]; exact (below_size (bl HB)) : w.heap.size ≤ gb506))
                           have GE506 := Aside0.mk ((by rw [hg]; exact (below_size (bl HB)) : w.heap.size ≤ gb506))
                           have NB481_506 := nb BK481 hg
                           have NB506_481 := bn BK481 hg
                           have NB484_506 := nb BK484 hg
                           have NB506_484 := bn BK484 hg
                           replace HO_7 := Aside0.mk (Kd.R_below (by (with_reducible repeat (first | apply Kd.R_alloc | apply Kd.R_drewN | apply Kd.R_drew)); exact HO_7.out) hb)
                           replace HO_8 := Aside0.mk (Kd.R_below (by (with_reducible repeat (first | apply Kd.R_alloc | apply Kd.R_drewN | apply Kd.R_drew)); exact HO_8.out) hb)
                           replace HO_485002 := ve HO_485002 hg hb
                           replace HO_485003 := ve HO_485003 hg hb
                           replace BK481 := Aside0.mk (blk_below (bo BK481) hb)
                           replace BK484 := Aside0.mk (blk_below (bo BK484) hb)
                           replace HB := Aside0.mk (below_step (bl HB) hb)
                           clear hb hbox hg
                           refine hK.out _ _ ⟨(blk_cell BK481.out 0).trans rfl, (blk_cell BK481.out 1).trans rfl, (blk_cell BK481.out 2).trans rfl, (blk_cell BK481.out 3).trans rfl, (blk_cell BK484.out 0).trans rfl, (blk_cell BK484.out 1).trans rfl, (blk_cell BK484.out 2).trans rfl, (blk_cell BK484.out 3).trans rfl, ((HB.out.cell (World.block_lt_of_cell? w _ hw493_0)).trans hw493_0), ((HB.out.cell (World.block_lt_of_cell? w _ hw493_1)).trans hw493_1)⟩ (fun hHeld => ?_)
                           clear hK K
                           refine norm_ (a' := ?_) ?_ ?_
                           rotate_left
                           ·show Act.put _ (some 12) _ = _
                            simp only [Act.put, List.setIfInBounds_toArray, List.set_cons_zero, List.set_cons_succ, i64_w, i32_w]
                            rfl
                           exact norm_ (by first | (simp only [putAll, Act.put, List.setIfInBounds_toArray, List.set_cons_zero, List.set_cons_succ]; done) | (simp only [putAll, Act.put, List.setIfInBounds_toArray, List.set_cons_zero, List.set_cons_succ]; rfl)) (hJ12 (gb506) _ ⟨hHeld, (by (with_reducible repeat (first | apply Kd.V_alloc | apply Kd.V_drewN | apply Kd.V_drew)); exact Kd.V_mono HO_485002.out (fun _ hk => ⟨hk.1.1, ⟨hk.1.2.1, ⟨hk.1.2.2.1, ⟨hk.1.2.2.2, hk.2⟩⟩⟩⟩)), (by (with_reducible repeat (first | apply Kd.V_alloc | apply Kd.V_drewN | apply Kd.V_drew)); exact Kd.V_mono HO_485003.out (fun _ hk => ⟨hk.1.1, ⟨hk.1.2.1, ⟨hk.1.2.2.1, ⟨hk.1.2.2.2, hk.2⟩⟩⟩⟩)), (by (with_reducible repeat (first | apply Kd.R_alloc | apply Kd.R_drewN | apply Kd.R_drew)); exact HO_7.out), (by (with_reducible repeat (first | apply Kd.R_alloc | apply Kd.R_drewN | apply Kd.R_drew)); exact HO_8.out), (bo BK481), (bo BK484), (bo BK506), GW506.out, GE506.out, NB481_506.out, NB506_481.out, NB484_506.out, NB506_484.out, (bl HB)⟩)
                          ·skip
                           refine box_step ?hg (N := 13) ?hd (cs := #[.bool false, .int .i64 0, .int .i64 0, .int .i64 0]) (t := 32) ?hr ?_; (case hd => rfl); (case hg => rfl); (case hr => first | (go_simp; done) | (go_simp; rfl))
                           intro gb507 hg w50 hbox hb
                           have BK507 := Aside0.mk (hbox)
                           have GW507 := Aside0.mk ((by rw [hg]; exact (below_size (bl HB)) : w.heap.size ≤ gb507))
                           have GE507 := Aside0.mk ((by rw [hg]; exact (below_size (bl HB)) : w.heap.size ≤ gb507))
                           have NB481_507 := nb BK481 hg
                           have NB507_481 := bn BK481 hg
                           have NB484_507 := nb BK484 hg
                           have NB507_484 := bn BK484 hg
                           replace HO_7 := Aside0.mk (Kd.R_below (by (with_reducible repeat (first | apply Kd.R_alloc | apply Kd.R_drewN | apply Kd.R_drew)); exact HO_7.out) hb)
                           replace HO_8 := Aside0.mk (Kd.R_below (by (with_reducible repeat (first | apply Kd.R_alloc | apply Kd.R_drewN | apply Kd.R_drew)); exact HO_8.out) hb)
                           replace HO_485002 := ve HO_485002 hg hb
                           replace HO_485003 := ve HO_485003 hg hb
                           replace BK481 := Aside0.mk (blk_below (bo BK481) hb)
                           replace BK484 := Aside0.mk (blk_below (bo BK484) hb)
                           replace HB := Aside0.mk (below_step (bl HB) hb)
                           clear hb hbox hg
                           refine hK.out _ _ ⟨(blk_cell BK481.out 0).trans rfl, (blk_cell BK481.out 1).trans rfl, (blk_cell BK481.out 2).trans rfl, (blk_cell BK481.out 3).trans rfl, (blk_cell BK484.out 0).trans rfl, (blk_cell BK484.out 1).trans rfl, (blk_cell BK484.out 2).trans rfl, (blk_cell BK484.out 3).trans rfl, ((HB.out.cell (World.block_lt_of_cell? w _ hw493_0)).trans hw493_0), ((HB.out.cell (World.block_lt_of_cell? w _ hw493_1)).trans hw493_1)⟩ (fun hHeld => ?_)
                           clear hK K
                           refine norm_ (a' := ?_) ?_ ?_
                           rotate_left
                           ·show Act.put _ (some 13) _ = _
                            simp only [Act.put, List.setIfInBounds_toArray, List.set_cons_zero, List.set_cons_succ, i64_w, i32_w]
                            rfl
                           exact norm_ (by first | (simp only [putAll, Act.put, List.setIfInBounds_toArray, List.set_cons_zero, List.set_cons_succ]; done) | (simp only [putAll, Act.put, List.setIfInBounds_toArray, List.set_cons_zero, List.set_cons_succ]; rfl)) (hJ13 (gb507) _ ⟨hHeld, (by (with_reducible repeat (first | apply Kd.V_alloc | apply Kd.V_drewN | apply Kd.V_drew)); exact Kd.V_mono HO_485002.out (fun _ hk => ⟨hk.1.1, ⟨hk.1.2.1, ⟨hk.1.2.2.1, ⟨hk.1.2.2.2, hk.2⟩⟩⟩⟩)), (by (with_reducible repeat (first | apply Kd.V_alloc | apply Kd.V_drewN | apply Kd.V_drew)); exact Kd.V_mono HO_485003.out (fun _ hk => ⟨hk.1.1, ⟨hk.1.2.1, ⟨hk.1.2.2.1, ⟨hk.1.2.2.2, hk.2⟩⟩⟩⟩)), (by (with_reducible repeat (first | apply Kd.R_alloc | apply Kd.R_drewN | apply Kd.R_drew)); exact HO_7.out), (by (with_reducible repeat (first | apply Kd.R_alloc | apply Kd.R_drewN | apply Kd.R_drew)); exact HO_8.out), (bo BK481), (bo BK484), (bo BK507), GW507.out, GE507.out, NB481_507.out, NB507_481.out, NB484_507.out, NB507_484.out, (bl HB)⟩)
                         ·skip
                          rintro gb507 w51 ⟨hS_, h0_, h1_, h2_, h3_, h4_, h5_, h6_, h7_, h8_, h9_, h10_, h11_, h12_, h13_⟩
                          have BK507 : Aside0 (w51.heap[gb507]? = some (.cells #[.bool false, .int .i64 0, .int .i64 0, .int .i64 0] 32 (0, 0))) := ⟨h6_⟩
                          have GW507 : Aside0 (w.heap.size ≤ gb507) := ⟨h7_⟩
                          have GE507 : Aside0 (w.heap.size ≤ gb507) := ⟨h8_⟩
                          have NB481_507 : Aside0 (gb481 ≠ gb507) := ⟨h9_⟩
                          have NB507_481 : Aside0 (gb507 ≠ gb481) := ⟨h10_⟩
                          have NB484_507 : Aside0 (gb484 ≠ gb507) := ⟨h11_⟩
                          have NB507_484 : Aside0 (gb507 ≠ gb484) := ⟨h12_⟩
                          replace HO_485002 : Aside0 (Kd.V (Kd.int .i64) 3 w51 w.heap.size (fun k_ => some k_ ≠ (u7 : Value).ownBlock ∧ some k_ ≠ (u8 : Value).ownBlock ∧ k_ ≠ gb481 ∧ k_ ≠ gb484 ∧ k_ ≠ gb507) (.slice Ao47 x485002_2.length co47) x485002_2) := ⟨h0_⟩
                          replace HO_485003 : Aside0 (Kd.V k50 50 w51 w.heap.size (fun k_ => some k_ ≠ (u7 : Value).ownBlock ∧ some k_ ≠ (u8 : Value).ownBlock ∧ k_ ≠ gb481 ∧ k_ ≠ gb484 ∧ k_ ≠ gb507) (.slice Ao48 x485003_2.length co48) x485003_2) := ⟨h1_⟩
                          replace HO_7 : Aside0 (Kd.R (Kd.int .i64) 3 w51 w.heap.size (fun k_ => some k_ ≠ (u8 : Value).ownBlock) u7 x7_2) := ⟨h2_⟩
                          replace HO_8 : Aside0 (Kd.R (Kd.int .i64) 3 w51 w.heap.size (fun k_ => some k_ ≠ (u7 : Value).ownBlock) u8 x8_2) := ⟨h3_⟩
                          replace BK481 : Aside0 (w51.heap[gb481]? = some (.cells #[.int .i64 a0_0, .int .i64 a0_1, .int .i64 a0_2, .int .i64 a0_3] 23 (0, 0))) := ⟨h4_⟩
                          replace BK484 : Aside0 (w51.heap[gb484]? = some (.cells #[.int .i64 x485000_2, .int .i64 x485001_2, .slice Ao47 x485002_2.length co47, .slice Ao48 x485003_2.length co48] 27 (0, 0))) := ⟨h5_⟩
                          replace HB : Aside0 (Below w.heap.size w w51) := ⟨h13_⟩
                          clear h0_ h1_ h2_ h3_ h4_ h5_ h6_ h7_ h8_ h9_ h10_ h11_ h12_ h13_
                          have hHeld : w51.cell? ⟨gb481, 0, none⟩ = some (.int .i64 a0_0) ∧ w51.cell? ⟨gb481, 1, none⟩ = some (.int .i64 a0_1) ∧ w51.cell? ⟨gb481, 2, none⟩ = some (.int .i64 a0_2) ∧ w51.cell? ⟨gb481, 3, none⟩ = some (.int .i64 a0_3) ∧ w51.cell? ⟨gb484, 0, none⟩ = some (.int .i64 x485000_2) ∧ w51.cell? ⟨gb484, 1, none⟩ = some (.int .i64 x485001_2) ∧ w51.cell? ⟨gb484, 2, none⟩ = some (.slice Ao47 x485002_2.length co47) ∧ w51.cell? ⟨gb484, 3, none⟩ = some (.slice Ao48 x485003_2.length co48) ∧ w51.cell? (ad490.add ((x9_2).toNat * 2)) = some (.int .i64 ((rd_T45 l1 x9_2).f0)) ∧ w51.cell? ⟨(ad490.add ((x9_2).toNat * 2)).block, (ad490.add ((x9_2).toNat * 2)).off + 1, none⟩ = some (.int .i64 ((rd_T45 l1 x9_2).f1)) := hS_
                          refine norm_ (a' := ?_) ?_ ?_
                          rotate_left
                          ·simp only [putAll, Act.put, List.setIfInBounds_toArray, List.set_cons_zero, List.set_cons_succ]
                           rfl
                          refine two_ (i := 8) (j := 12) (Ni := some 95) (Nj := some 12) #[true, true, true, true, true, true, true, true, true, false, false, false, false, true, false, false] #[true, true, true, true, true, true, true, true, false, false, false, false, true, true, false, false] rfl rfl rfl rfl (two_of HT_.out (by kernel_rfl)) (by decide) (by decide) (fun K hK => ?_) (fun K hK => ?_)
                          ·skip
                           refine goes_ Try.func10 (by kernel_rfl) rfl #[.agg #[.int .i64 a0_0, .int .i64 a0_1, .int .i64 a0_2, .int .i64 a0_3], .agg #[.int .i64 x485000_2, .int .i64 x485001_2, .slice Ao47 x485002_2.length co47, .slice Ao48 x485003_2.length co48], .int .i64 (wrap64 (x6_2 + ((rd_T45 l1 x9_2).f0))), .int .i64 ((rd_T45 l1 x9_2).f1)] (by rfl) rfl rfl (by (try simp only [List.map_toArray, List.map_cons, List.map_nil]); first | done | rfl | (simp only [List.length_drop, List.length_take]; rfl)) ?_
                           with_reducible refine (exact_Ask.calls k4 a0_0 a0_1 a0_2 a0_3 x485000_2 x485001_2 (fun k_ => (some k_ ≠ (u7 : Value).ownBlock ∧ (some k_ ≠ (u8 : Value).ownBlock ∧ (k_ ≠ gb481 ∧ (k_ ≠ gb484 ∧ k_ ≠ gb507))))) _ _ x485002_2 (fun k_ => (some k_ ≠ (u7 : Value).ownBlock ∧ (some k_ ≠ (u8 : Value).ownBlock ∧ (k_ ≠ gb481 ∧ (k_ ≠ gb484 ∧ k_ ≠ gb507))))) _ _ x485003_2 (wrap64 (x6_2 + ((rd_T45 l1 x9_2).f0))) ((rd_T45 l1 x9_2).f1) t494 t495 t496 t499 t502 t503 t504 t505 _ ?side1 ?side2 A43.out).mono ?_
                           (case side1 => exact HO_485002.out)
                           (case side2 => exact HO_485003.out)
                           rintro e w52 ⟨v497, v500, rfl, ho0, ho1, hb⟩
                           refine ⟨_, rfl, ?_⟩
                           have HO498 := Aside0.mk (Kd.V_lower (Kd.V_mono (ok' := fun k_ => some k_ ≠ (u7 : Value).ownBlock ∧ some k_ ≠ (u8 : Value).ownBlock ∧ k_ ≠ gb481 ∧ k_ ≠ gb484 ∧ k_ ≠ gb507) ho0 (fun k_ hk_ => ⟨Or.elim hk_ (fun hs_ => Or.elim hs_ (fun hs_ => hs_.1) (fun hs_ => hs_.1)) (fun hn_ => (Kd.fresh' (Kd.R_lt (by (with_reducible repeat (first | apply Kd.R_alloc | apply Kd.R_drewN | apply Kd.R_drew)); exact HO_7.out)) k_ hn_)), Or.elim hk_ (fun hs_ => Or.elim hs_ (fun hs_ => hs_.2.1) (fun hs_ => hs_.2.1)) (fun hn_ => (Kd.fresh' (Kd.R_lt (by (with_reducible repeat (first | apply Kd.R_alloc | apply Kd.R_drewN | apply Kd.R_drew)); exact HO_8.out)) k_ hn_)), Or.elim hk_ (fun hs_ => Or.elim hs_ (fun hs_ => hs_.2.2.1) (fun hs_ => hs_.2.2.1)) (fun hn_ => (Kd.freshB (bo BK481) k_ hn_)), Or.elim hk_ (fun hs_ => Or.elim hs_ (fun hs_ => hs_.2.2.2.1) (fun hs_ => hs_.2.2.2.1)) (fun hn_ => (Kd.freshB (bo BK484) k_ hn_)), Or.elim hk_ (fun hs_ => Or.elim hs_ (fun hs_ => hs_.2.2.2.2) (fun hs_ => hs_.2.2.2.2)) (fun hn_ => (Kd.freshB (bo BK507) k_ hn_))⟩)) (below_size (bl HB)))
                           have HO501 := Aside0.mk (Kd.V_lower (Kd.V_mono (ok' := fun k_ => some k_ ≠ (u7 : Value).ownBlock ∧ some k_ ≠ (u8 : Value).ownBlock ∧ k_ ≠ gb481 ∧ k_ ≠ gb484 ∧ k_ ≠ gb507) ho1 (fun k_ hk_ => ⟨Or.elim hk_ (fun hs_ => Or.elim hs_ (fun hs_ => hs_.1) (fun hs_ => hs_.1)) (fun hn_ => (Kd.fresh' (Kd.R_lt (by (with_reducible repeat (first | apply Kd.R_alloc | apply Kd.R_drewN | apply Kd.R_drew)); exact HO_7.out)) k_ hn_)), Or.elim hk_ (fun hs_ => Or.elim hs_ (fun hs_ => hs_.2.1) (fun hs_ => hs_.2.1)) (fun hn_ => (Kd.fresh' (Kd.R_lt (by (with_reducible repeat (first | apply Kd.R_alloc | apply Kd.R_drewN | apply Kd.R_drew)); exact HO_8.out)) k_ hn_)), Or.elim hk_ (fun hs_ => Or.elim hs_ (fun hs_ => hs_.2.2.1) (fun hs_ => hs_.2.2.1)) (fun hn_ => (Kd.freshB (bo BK481) k_ hn_)), Or.elim hk_ (fun hs_ => Or.elim hs_ (fun hs_ => hs_.2.2.2.1) (fun hs_ => hs_.2.2.2.1)) (fun hn_ => (Kd.freshB (bo BK484) k_ hn_)), Or.elim hk_ (fun hs_ => Or.elim hs_ (fun hs_ => hs_.2.2.2.2) (fun hs_ => hs_.2.2.2.2)) (fun hn_ => (Kd.freshB (bo BK507) k_ hn_))⟩)) (below_size (bl HB)))
                           replace HO_7 := Aside0.mk (Kd.R_below (by (with_reducible repeat (first | apply Kd.R_alloc | apply Kd.R_drewN | apply Kd.R_drew)); exact HO_7.out) hb)
                           replace HO_8 := Aside0.mk (Kd.R_below (by (with_reducible repeat (first | apply Kd.R_alloc | apply Kd.R_drewN | apply Kd.R_drew)); exact HO_8.out) hb)
                           replace HO_485002 := vb HO_485002 hb
                           replace HO_485003 := vb HO_485003 hb
                           replace BK481 := Aside0.mk (blk_below (bo BK481) hb)
                           replace BK484 := Aside0.mk (blk_below (bo BK484) hb)
                           replace BK507 := Aside0.mk (blk_below (bo BK507) hb)
                           replace HB := Aside0.mk (below_step (bl HB) hb)
                           (try clear hb)
                           (try clear hb2)
                           (try clear hk)
                           (try clear hi)
                           (try clear ho0)
                           (try clear ho1)
                           refine hK.out _ _ ⟨(blk_cell BK481.out 0).trans rfl, (blk_cell BK481.out 1).trans rfl, (blk_cell BK481.out 2).trans rfl, (blk_cell BK481.out 3).trans rfl, (blk_cell BK484.out 0).trans rfl, (blk_cell BK484.out 1).trans rfl, (blk_cell BK484.out 2).trans rfl, (blk_cell BK484.out 3).trans rfl, ((HB.out.cell (World.block_lt_of_cell? w _ hw493_0)).trans hw493_0), ((HB.out.cell (World.block_lt_of_cell? w _ hw493_1)).trans hw493_1)⟩ (fun hHeld => ?_)
                           clear hK K
                           refine norm_ (a' := ?_) ?_ ?_
                           rotate_left
                           ·show Act.put _ (some 95) _ = _
                            simp only [Act.put, List.setIfInBounds_toArray, List.set_cons_zero, List.set_cons_succ, i64_w, i32_w]
                            rfl
                           refine pureA 9 86 HT_ ?_
                           refine pureA 10 96 HT_ ?_
                           refine pureA 11 97 HT_ ?_
                           exact norm_ (by first | (simp only [putAll, Act.put, List.setIfInBounds_toArray, List.set_cons_zero, List.set_cons_succ]; done) | (simp only [putAll, Act.put, List.setIfInBounds_toArray, List.set_cons_zero, List.set_cons_succ]; rfl)) (hJ8_13 (v497, v500, gb507) _ ⟨hHeld, (by (with_reducible repeat (first | apply Kd.V_alloc | apply Kd.V_drewN | apply Kd.V_drew)); exact HO498.out), (by (with_reducible repeat (first | apply Kd.V_alloc | apply Kd.V_drewN | apply Kd.V_drew)); exact HO501.out), (by (with_reducible repeat (first | apply Kd.V_alloc | apply Kd.V_drewN | apply Kd.V_drew)); exact HO_485002.out), (by (with_reducible repeat (first | apply Kd.V_alloc | apply Kd.V_drewN | apply Kd.V_drew)); exact HO_485003.out), (by (with_reducible repeat (first | apply Kd.R_alloc | apply Kd.R_drewN | apply Kd.R_drew)); exact HO_7.out), (by (with_reducible repeat (first | apply Kd.R_alloc | apply Kd.R_drewN | apply Kd.R_drew)); exact HO_8.out), (bo BK481), (bo BK484), (bo BK507), GW507.out, GE507.out, NB481_507.out, NB507_481.out, NB484_507.out, NB507_484.out, (bl HB)⟩)
                          ·skip
                           refine box_step ?hg (N := 12) ?hd (cs := #[.int .i64 0, .int .i64 0, .slice none 0 0, .slice none 0 0]) (t := 27) ?hr ?_; (case hd => rfl); (case hg => rfl); (case hr => first | (go_simp; done) | (go_simp; rfl))
                           intro gb506 hg w52 hbox hb
                           have BK506 := Aside0.mk (hbox)
                           have GW506 := Aside0.mk ((by rw [hg]; exact (below_size (bl HB)) : w.heap.size ≤ gb506))
                           have GE506 := Aside0.mk ((by rw [hg]; exact (below_size (bl HB)) : w.heap.size ≤ gb506))
                           have NB481_506 := nb BK481 hg
                           have NB506_481 := bn BK481 hg
                           have NB484_506 := nb BK484 hg
                           have NB506_484 := bn BK484 hg
                           have NB507_506 := nb BK507 hg
                           have NB506_507 := bn BK507 hg
                           replace HO_7 := Aside0.mk (Kd.R_below (by (with_reducible repeat (first | apply Kd.R_alloc | apply Kd.R_drewN | apply Kd.R_drew)); exact HO_7.out) hb)
                           replace HO_8 := Aside0.mk (Kd.R_below (by (with_reducible repeat (first | apply Kd.R_alloc | apply Kd.R_drewN | apply Kd.R_drew)); exact HO_8.out) hb)
                           replace HO_485002 := ve HO_485002 hg hb
                           replace HO_485003 := ve HO_485003 hg hb
                           replace BK481 := Aside0.mk (blk_below (bo BK481) hb)
                           replace BK484 := Aside0.mk (blk_below (bo BK484) hb)
                           replace BK507 := Aside0.mk (blk_below (bo BK507) hb)
                           replace HB := Aside0.mk (below_step (bl HB) hb)
                           clear hb hbox hg
                           refine hK.out _ _ ⟨(blk_cell BK481.out 0).trans rfl, (blk_cell BK481.out 1).trans rfl, (blk_cell BK481.out 2).trans rfl, (blk_cell BK481.out 3).trans rfl, (blk_cell BK484.out 0).trans rfl, (blk_cell BK484.out 1).trans rfl, (blk_cell BK484.out 2).trans rfl, (blk_cell BK484.out 3).trans rfl, ((HB.out.cell (World.block_lt_of_cell? w _ hw493_0)).trans hw493_0), ((HB.out.cell (World.block_lt_of_cell? w _ hw493_1)).trans hw493_1)⟩ (fun hHeld => ?_)
                           clear hK K
                           refine norm_ (a' := ?_) ?_ ?_
                           rotate_left
                           ·show Act.put _ (some 12) _ = _
                            simp only [Act.put, List.setIfInBounds_toArray, List.set_cons_zero, List.set_cons_succ, i64_w, i32_w]
                            rfl
                           exact norm_ (by first | (simp only [putAll, Act.put, List.setIfInBounds_toArray, List.set_cons_zero, List.set_cons_succ]; done) | (simp only [putAll, Act.put, List.setIfInBounds_toArray, List.set_cons_zero, List.set_cons_succ]; rfl)) (hJ12_13 (gb506, gb507) _ ⟨hHeld, (by (with_reducible repeat (first | apply Kd.V_alloc | apply Kd.V_drewN | apply Kd.V_drew)); exact Kd.V_mono HO_485002.out (fun _ hk => ⟨hk.1.1, ⟨hk.1.2.1, ⟨hk.1.2.2.1, ⟨hk.1.2.2.2.1, ⟨hk.2, hk.1.2.2.2.2⟩⟩⟩⟩⟩)), (by (with_reducible repeat (first | apply Kd.V_alloc | apply Kd.V_drewN | apply Kd.V_drew)); exact Kd.V_mono HO_485003.out (fun _ hk => ⟨hk.1.1, ⟨hk.1.2.1, ⟨hk.1.2.2.1, ⟨hk.1.2.2.2.1, ⟨hk.2, hk.1.2.2.2.2⟩⟩⟩⟩⟩)), (by (with_reducible repeat (first | apply Kd.R_alloc | apply Kd.R_drewN | apply Kd.R_drew)); exact HO_7.out), (by (with_reducible repeat (first | apply Kd.R_alloc | apply Kd.R_drewN | apply Kd.R_drew)); exact HO_8.out), (bo BK481), (bo BK484), (bo BK506), (bo BK507), GW506.out, GE506.out, NB481_506.out, NB506_481.out, NB484_506.out, NB506_484.out, NB507_506.out, NB506_507.out, GW507.out, GE507.out, NB481_507.out, NB507_481.out, NB484_507.out, NB507_484.out, (bl HB)⟩)
                        ·skip
                         rintro gb506 w51 ⟨hS_, h0_, h1_, h2_, h3_, h4_, h5_, h6_, h7_, h8_, h9_, h10_, h11_, h12_, h13_⟩
                         have BK506 : Aside0 (w51.heap[gb506]? = some (.cells #[.int .i64 0, .int .i64 0, .slice none 0 0, .slice none 0 0] 27 (0, 0))) := ⟨h6_⟩
                         have GW506 : Aside0 (w.heap.size ≤ gb506) := ⟨h7_⟩
                         have GE506 : Aside0 (w.heap.size ≤ gb506) := ⟨h8_⟩
                         have NB481_506 : Aside0 (gb481 ≠ gb506) := ⟨h9_⟩
                         have NB506_481 : Aside0 (gb506 ≠ gb481) := ⟨h10_⟩
                         have NB484_506 : Aside0 (gb484 ≠ gb506) := ⟨h11_⟩
                         have NB506_484 : Aside0 (gb506 ≠ gb484) := ⟨h12_⟩
                         replace HO_485002 : Aside0 (Kd.V (Kd.int .i64) 3 w51 w.heap.size (fun k_ => some k_ ≠ (u7 : Value).ownBlock ∧ some k_ ≠ (u8 : Value).ownBlock ∧ k_ ≠ gb481 ∧ k_ ≠ gb484 ∧ k_ ≠ gb506) (.slice Ao47 x485002_2.length co47) x485002_2) := ⟨h0_⟩
                         replace HO_485003 : Aside0 (Kd.V k50 50 w51 w.heap.size (fun k_ => some k_ ≠ (u7 : Value).ownBlock ∧ some k_ ≠ (u8 : Value).ownBlock ∧ k_ ≠ gb481 ∧ k_ ≠ gb484 ∧ k_ ≠ gb506) (.slice Ao48 x485003_2.length co48) x485003_2) := ⟨h1_⟩
                         replace HO_7 : Aside0 (Kd.R (Kd.int .i64) 3 w51 w.heap.size (fun k_ => some k_ ≠ (u8 : Value).ownBlock) u7 x7_2) := ⟨h2_⟩
                         replace HO_8 : Aside0 (Kd.R (Kd.int .i64) 3 w51 w.heap.size (fun k_ => some k_ ≠ (u7 : Value).ownBlock) u8 x8_2) := ⟨h3_⟩
                         replace BK481 : Aside0 (w51.heap[gb481]? = some (.cells #[.int .i64 a0_0, .int .i64 a0_1, .int .i64 a0_2, .int .i64 a0_3] 23 (0, 0))) := ⟨h4_⟩
                         replace BK484 : Aside0 (w51.heap[gb484]? = some (.cells #[.int .i64 x485000_2, .int .i64 x485001_2, .slice Ao47 x485002_2.length co47, .slice Ao48 x485003_2.length co48] 27 (0, 0))) := ⟨h5_⟩
                         replace HB : Aside0 (Below w.heap.size w w51) := ⟨h13_⟩
                         clear h0_ h1_ h2_ h3_ h4_ h5_ h6_ h7_ h8_ h9_ h10_ h11_ h12_ h13_
                         have hHeld : w51.cell? ⟨gb481, 0, none⟩ = some (.int .i64 a0_0) ∧ w51.cell? ⟨gb481, 1, none⟩ = some (.int .i64 a0_1) ∧ w51.cell? ⟨gb481, 2, none⟩ = some (.int .i64 a0_2) ∧ w51.cell? ⟨gb481, 3, none⟩ = some (.int .i64 a0_3) ∧ w51.cell? ⟨gb484, 0, none⟩ = some (.int .i64 x485000_2) ∧ w51.cell? ⟨gb484, 1, none⟩ = some (.int .i64 x485001_2) ∧ w51.cell? ⟨gb484, 2, none⟩ = some (.slice Ao47 x485002_2.length co47) ∧ w51.cell? ⟨gb484, 3, none⟩ = some (.slice Ao48 x485003_2.length co48) ∧ w51.cell? (ad490.add ((x9_2).toNat * 2)) = some (.int .i64 ((rd_T45 l1 x9_2).f0)) ∧ w51.cell? ⟨(ad490.add ((x9_2).toNat * 2)).block, (ad490.add ((x9_2).toNat * 2)).off + 1, none⟩ = some (.int .i64 ((rd_T45 l1 x9_2).f1)) := hS_
                         refine norm_ (a' := ?_) ?_ ?_
                         rotate_left
                         ·simp only [putAll, Act.put, List.setIfInBounds_toArray, List.set_cons_zero, List.set_cons_succ]
                          rfl
                         refine two_ (i := 8) (j := 13) (Ni := some 95) (Nj := some 13) #[true, true, true, true, true, true, true, true, true, false, false, false, true, false, false, false] #[true, true, true, true, true, true, true, true, false, false, false, false, true, true, false, false] rfl rfl rfl rfl (two_of HT_.out (by kernel_rfl)) (by decide) (by decide) (fun K hK => ?_) (fun K hK => ?_)
                         ·skip
                          refine goes_ Try.func10 (by kernel_rfl) rfl #[.agg #[.int .i64 a0_0, .int .i64 a0_1, .int .i64 a0_2, .int .i64 a0_3], .agg #[.int .i64 x485000_2, .int .i64 x485001_2, .slice Ao47 x485002_2.length co47, .slice Ao48 x485003_2.length co48], .int .i64 (wrap64 (x6_2 + ((rd_T45 l1 x9_2).f0))), .int .i64 ((rd_T45 l1 x9_2).f1)] (by rfl) rfl rfl (by (try simp only [List.map_toArray, List.map_cons, List.map_nil]); first | done | rfl | (simp only [List.length_drop, List.length_take]; rfl)) ?_
                          with_reducible refine (exact_Ask.calls k4 a0_0 a0_1 a0_2 a0_3 x485000_2 x485001_2 (fun k_ => (some k_ ≠ (u7 : Value).ownBlock ∧ (some k_ ≠ (u8 : Value).ownBlock ∧ (k_ ≠ gb481 ∧ (k_ ≠ gb484 ∧ k_ ≠ gb506))))) _ _ x485002_2 (fun k_ => (some k_ ≠ (u7 : Value).ownBlock ∧ (some k_ ≠ (u8 : Value).ownBlock ∧ (k_ ≠ gb481 ∧ (k_ ≠ gb484 ∧ k_ ≠ gb506))))) _ _ x485003_2 (wrap64 (x6_2 + ((rd_T45 l1 x9_2).f0))) ((rd_T45 l1 x9_2).f1) t494 t495 t496 t499 t502 t503 t504 t505 _ ?side1 ?side2 A43.out).mono ?_
                          (case side1 => exact HO_485002.out)
                          (case side2 => exact HO_485003.out)
                          rintro e w52 ⟨v497, v500, rfl, ho0, ho1, hb⟩
                          refine ⟨_, rfl, ?_⟩
                          have HO498 := Aside0.mk (Kd.V_lower (Kd.V_mono (ok' := fun k_ => some k_ ≠ (u7 : Value).ownBlock ∧ some k_ ≠ (u8 : Value).ownBlock ∧ k_ ≠ gb481 ∧ k_ ≠ gb484 ∧ k_ ≠ gb506) ho0 (fun k_ hk_ => ⟨Or.elim hk_ (fun hs_ => Or.elim hs_ (fun hs_ => hs_.1) (fun hs_ => hs_.1)) (fun hn_ => (Kd.fresh' (Kd.R_lt (by (with_reducible repeat (first | apply Kd.R_alloc | apply Kd.R_drewN | apply Kd.R_drew)); exact HO_7.out)) k_ hn_)), Or.elim hk_ (fun hs_ => Or.elim hs_ (fun hs_ => hs_.2.1) (fun hs_ => hs_.2.1)) (fun hn_ => (Kd.fresh' (Kd.R_lt (by (with_reducible repeat (first | apply Kd.R_alloc | apply Kd.R_drewN | apply Kd.R_drew)); exact HO_8.out)) k_ hn_)), Or.elim hk_ (fun hs_ => Or.elim hs_ (fun hs_ => hs_.2.2.1) (fun hs_ => hs_.2.2.1)) (fun hn_ => (Kd.freshB (bo BK481) k_ hn_)), Or.elim hk_ (fun hs_ => Or.elim hs_ (fun hs_ => hs_.2.2.2.1) (fun hs_ => hs_.2.2.2.1)) (fun hn_ => (Kd.freshB (bo BK484) k_ hn_)), Or.elim hk_ (fun hs_ => Or.elim hs_ (fun hs_ => hs_.2.2.2.2) (fun hs_ => hs_.2.2.2.2)) (fun hn_ => (Kd.freshB (bo BK506) k_ hn_))⟩)) (below_size (bl HB)))
                          have HO501 := Aside0.mk (Kd.V_lower (Kd.V_mono (ok' := fun k_ => some k_ ≠ (u7 : Value).ownBlock ∧ some k_ ≠ (u8 : Value).ownBlock ∧ k_ ≠ gb481 ∧ k_ ≠ gb484 ∧ k_ ≠ gb506) ho1 (fun k_ hk_ => ⟨Or.elim hk_ (fun hs_ => Or.elim hs_ (fun hs_ => hs_.1) (fun hs_ => hs_.1)) (fun hn_ => (Kd.fresh' (Kd.R_lt (by (with_reducible repeat (first | apply Kd.R_alloc | apply Kd.R_drewN | apply Kd.R_drew)); exact HO_7.out)) k_ hn_)), Or.elim hk_ (fun hs_ => Or.elim hs_ (fun hs_ => hs_.2.1) (fun hs_ => hs_.2.1)) (fun hn_ => (Kd.fresh' (Kd.R_lt (by (with_reducible repeat (first | apply Kd.R_alloc | apply Kd.R_drewN | apply Kd.R_drew)); exact HO_8.out)) k_ hn_)), Or.elim hk_ (fun hs_ => Or.elim hs_ (fun hs_ => hs_.2.2.1) (fun hs_ => hs_.2.2.1)) (fun hn_ => (Kd.freshB (bo BK481) k_ hn_)), Or.elim hk_ (fun hs_ => Or.elim hs_ (fun hs_ => hs_.2.2.2.1) (fun hs_ => hs_.2.2.2.1)) (fun hn_ => (Kd.freshB (bo BK484) k_ hn_)), Or.elim hk_ (fun hs_ => Or.elim hs_ (fun hs_ => hs_.2.2.2.2) (fun hs_ => hs_.2.2.2.2)) (fun hn_ => (Kd.freshB (bo BK506) k_ hn_))⟩)) (below_size (bl HB)))
                          replace HO_7 := Aside0.mk (Kd.R_below (by (with_reducible repeat (first | apply Kd.R_alloc | apply Kd.R_drewN | apply Kd.R_drew)); exact HO_7.out) hb)
                          replace HO_8 := Aside0.mk (Kd.R_below (by (with_reducible repeat (first | apply Kd.R_alloc | apply Kd.R_drewN | apply Kd.R_drew)); exact HO_8.out) hb)
                          replace HO_485002 := vb HO_485002 hb
                          replace HO_485003 := vb HO_485003 hb
                          replace BK481 := Aside0.mk (blk_below (bo BK481) hb)
                          replace BK484 := Aside0.mk (blk_below (bo BK484) hb)
                          replace BK506 := Aside0.mk (blk_below (bo BK506) hb)
                          replace HB := Aside0.mk (below_step (bl HB) hb)
                          (try clear hb)
                          (try clear hb2)
                          (try clear hk)
                          (try clear hi)
                          (try clear ho0)
                          (try clear ho1)
                          refine hK.out _ _ ⟨(blk_cell BK481.out 0).trans rfl, (blk_cell BK481.out 1).trans rfl, (blk_cell BK481.out 2).trans rfl, (blk_cell BK481.out 3).trans rfl, (blk_cell BK484.out 0).trans rfl, (blk_cell BK484.out 1).trans rfl, (blk_cell BK484.out 2).trans rfl, (blk_cell BK484.out 3).trans rfl, ((HB.out.cell (World.block_lt_of_cell? w _ hw493_0)).trans hw493_0), ((HB.out.cell (World.block_lt_of_cell? w _ hw493_1)).trans hw493_1)⟩ (fun hHeld => ?_)
                          clear hK K
                          refine norm_ (a' := ?_) ?_ ?_
                          rotate_left
                          ·show Act.put _ (some 95) _ = _
                           simp only [Act.put, List.setIfInBounds_toArray, List.set_cons_zero, List.set_cons_succ, i64_w, i32_w]
                           rfl
                          refine pureA 9 86 HT_ ?_
                          refine pureA 10 96 HT_ ?_
                          refine pureA 11 97 HT_ ?_
                          exact norm_ (by first | (simp only [putAll, Act.put, List.setIfInBounds_toArray, List.set_cons_zero, List.set_cons_succ]; done) | (simp only [putAll, Act.put, List.setIfInBounds_toArray, List.set_cons_zero, List.set_cons_succ]; rfl)) (hJ8_12 (v497, v500, gb506) _ ⟨hHeld, (by (with_reducible repeat (first | apply Kd.V_alloc | apply Kd.V_drewN | apply Kd.V_drew)); exact HO498.out), (by (with_reducible repeat (first | apply Kd.V_alloc | apply Kd.V_drewN | apply Kd.V_drew)); exact HO501.out), (by (with_reducible repeat (first | apply Kd.V_alloc | apply Kd.V_drewN | apply Kd.V_drew)); exact HO_485002.out), (by (with_reducible repeat (first | apply Kd.V_alloc | apply Kd.V_drewN | apply Kd.V_drew)); exact HO_485003.out), (by (with_reducible repeat (first | apply Kd.R_alloc | apply Kd.R_drewN | apply Kd.R_drew)); exact HO_7.out), (by (with_reducible repeat (first | apply Kd.R_alloc | apply Kd.R_drewN | apply Kd.R_drew)); exact HO_8.out), (bo BK481), (bo BK484), (bo BK506), GW506.out, GE506.out, NB481_506.out, NB506_481.out, NB484_506.out, NB506_484.out, (bl HB)⟩)
                         ·skip
                          refine box_step ?hg (N := 13) ?hd (cs := #[.bool false, .int .i64 0, .int .i64 0, .int .i64 0]) (t := 32) ?hr ?_; (case hd => rfl); (case hg => rfl); (case hr => first | (go_simp; done) | (go_simp; rfl))
                          intro gb507 hg w52 hbox hb
                          have BK507 := Aside0.mk (hbox)
                          have GW507 := Aside0.mk ((by rw [hg]; exact (below_size (bl HB)) : w.heap.size ≤ gb507))
                          have GE507 := Aside0.mk ((by rw [hg]; exact (below_size (bl HB)) : w.heap.size ≤ gb507))
                          have NB481_507 := nb BK481 hg
                          have NB507_481 := bn BK481 hg
                          have NB484_507 := nb BK484 hg
                          have NB507_484 := bn BK484 hg
                          have NB506_507 := nb BK506 hg
                          have NB507_506 := bn BK506 hg
                          replace HO_7 := Aside0.mk (Kd.R_below (by (with_reducible repeat (first | apply Kd.R_alloc | apply Kd.R_drewN | apply Kd.R_drew)); exact HO_7.out) hb)
                          replace HO_8 := Aside0.mk (Kd.R_below (by (with_reducible repeat (first | apply Kd.R_alloc | apply Kd.R_drewN | apply Kd.R_drew)); exact HO_8.out) hb)
                          replace HO_485002 := ve HO_485002 hg hb
                          replace HO_485003 := ve HO_485003 hg hb
                          replace BK481 := Aside0.mk (blk_below (bo BK481) hb)
                          replace BK484 := Aside0.mk (blk_below (bo BK484) hb)
                          replace BK506 := Aside0.mk (blk_below (bo BK506) hb)
                          replace HB := Aside0.mk (below_step (bl HB) hb)
                          clear hb hbox hg
                          refine hK.out _ _ ⟨(blk_cell BK481.out 0).trans rfl, (blk_cell BK481.out 1).trans rfl, (blk_cell BK481.out 2).trans rfl, (blk_cell BK481.out 3).trans rfl, (blk_cell BK484.out 0).trans rfl, (blk_cell BK484.out 1).trans rfl, (blk_cell BK484.out 2).trans rfl, (blk_cell BK484.out 3).trans rfl, ((HB.out.cell (World.block_lt_of_cell? w _ hw493_0)).trans hw493_0), ((HB.out.cell (World.block_lt_of_cell? w _ hw493_1)).trans hw493_1)⟩ (fun hHeld => ?_)
                          clear hK K
                          refine norm_ (a' := ?_) ?_ ?_
                          rotate_left
                          ·show Act.put _ (some 13) _ = _
                           simp only [Act.put, List.setIfInBounds_toArray, List.set_cons_zero, List.set_cons_succ, i64_w, i32_w]
                           rfl
                          exact norm_ (by first | (simp only [putAll, Act.put, List.setIfInBounds_toArray, List.set_cons_zero, List.set_cons_succ]; done) | (simp only [putAll, Act.put, List.setIfInBounds_toArray, List.set_cons_zero, List.set_cons_succ]; rfl)) (hJ12_13 (gb506, gb507) _ ⟨hHeld, (by (with_reducible repeat (first | apply Kd.V_alloc | apply Kd.V_drewN | apply Kd.V_drew)); exact Kd.V_mono HO_485002.out (fun _ hk => ⟨hk.1.1, ⟨hk.1.2.1, ⟨hk.1.2.2.1, ⟨hk.1.2.2.2.1, ⟨hk.1.2.2.2.2, hk.2⟩⟩⟩⟩⟩)), (by (with_reducible repeat (first | apply Kd.V_alloc | apply Kd.V_drewN | apply Kd.V_drew)); exact Kd.V_mono HO_485003.out (fun _ hk => ⟨hk.1.1, ⟨hk.1.2.1, ⟨hk.1.2.2.1, ⟨hk.1.2.2.2.1, ⟨hk.1.2.2.2.2, hk.2⟩⟩⟩⟩⟩)), (by (with_reducible repeat (first | apply Kd.R_alloc | apply Kd.R_drewN | apply Kd.R_drew)); exact HO_7.out), (by (with_reducible repeat (first | apply Kd.R_alloc | apply Kd.R_drewN | apply Kd.R_drew)); exact HO_8.out), (bo BK481), (bo BK484), (bo BK506), (bo BK507), GW506.out, GE506.out, NB481_506.out, NB506_481.out, NB484_506.out, NB506_484.out, NB507_506.out, NB506_507.out, GW507.out, GE507.out, NB481_507.out, NB507_481.out, NB484_507.out, NB507_484.out, (bl HB)⟩)
                       ·skip
                        rintro ⟨v497, v500⟩ w51 ⟨hS_, h0_, h1_, h2_, h3_, h4_, h5_, h6_, h7_, h8_⟩
                        have HO498 : Aside0 (Kd.V (Kd.int .i64) 3 w51 w.heap.size (fun k_ => some k_ ≠ (u7 : Value).ownBlock ∧ some k_ ≠ (u8 : Value).ownBlock ∧ k_ ≠ gb481 ∧ k_ ≠ gb484) v497 t496) := ⟨h0_⟩
                        have HO501 : Aside0 (Kd.V k50 50 w51 w.heap.size (fun k_ => some k_ ≠ (u7 : Value).ownBlock ∧ some k_ ≠ (u8 : Value).ownBlock ∧ k_ ≠ gb481 ∧ k_ ≠ gb484) v500 t499) := ⟨h1_⟩
                        replace HO_485002 : Aside0 (Kd.V (Kd.int .i64) 3 w51 w.heap.size (fun k_ => some k_ ≠ (u7 : Value).ownBlock ∧ some k_ ≠ (u8 : Value).ownBlock ∧ k_ ≠ gb481 ∧ k_ ≠ gb484) (.slice Ao47 x485002_2.length co47) x485002_2) := ⟨h2_⟩
                        replace HO_485003 : Aside0 (Kd.V k50 50 w51 w.heap.size (fun k_ => some k_ ≠ (u7 : Value).ownBlock ∧ some k_ ≠ (u8 : Value).ownBlock ∧ k_ ≠ gb481 ∧ k_ ≠ gb484) (.slice Ao48 x485003_2.length co48) x485003_2) := ⟨h3_⟩
                        replace HO_7 : Aside0 (Kd.R (Kd.int .i64) 3 w51 w.heap.size (fun k_ => some k_ ≠ (u8 : Value).ownBlock) u7 x7_2) := ⟨h4_⟩
                        replace HO_8 : Aside0 (Kd.R (Kd.int .i64) 3 w51 w.heap.size (fun k_ => some k_ ≠ (u7 : Value).ownBlock) u8 x8_2) := ⟨h5_⟩
                        replace BK481 : Aside0 (w51.heap[gb481]? = some (.cells #[.int .i64 a0_0, .int .i64 a0_1, .int .i64 a0_2, .int .i64 a0_3] 23 (0, 0))) := ⟨h6_⟩
                        replace BK484 : Aside0 (w51.heap[gb484]? = some (.cells #[.int .i64 x485000_2, .int .i64 x485001_2, .slice Ao47 x485002_2.length co47, .slice Ao48 x485003_2.length co48] 27 (0, 0))) := ⟨h7_⟩
                        replace HB : Aside0 (Below w.heap.size w w51) := ⟨h8_⟩
                        clear h0_ h1_ h2_ h3_ h4_ h5_ h6_ h7_ h8_
                        have hHeld : w51.cell? ⟨gb481, 0, none⟩ = some (.int .i64 a0_0) ∧ w51.cell? ⟨gb481, 1, none⟩ = some (.int .i64 a0_1) ∧ w51.cell? ⟨gb481, 2, none⟩ = some (.int .i64 a0_2) ∧ w51.cell? ⟨gb481, 3, none⟩ = some (.int .i64 a0_3) ∧ w51.cell? ⟨gb484, 0, none⟩ = some (.int .i64 x485000_2) ∧ w51.cell? ⟨gb484, 1, none⟩ = some (.int .i64 x485001_2) ∧ w51.cell? ⟨gb484, 2, none⟩ = some (.slice Ao47 x485002_2.length co47) ∧ w51.cell? ⟨gb484, 3, none⟩ = some (.slice Ao48 x485003_2.length co48) ∧ w51.cell? (ad490.add ((x9_2).toNat * 2)) = some (.int .i64 ((rd_T45 l1 x9_2).f0)) ∧ w51.cell? ⟨(ad490.add ((x9_2).toNat * 2)).block, (ad490.add ((x9_2).toNat * 2)).off + 1, none⟩ = some (.int .i64 ((rd_T45 l1 x9_2).f1)) := hS_
                        refine norm_ (a' := ?_) ?_ ?_
                        rotate_left
                        ·simp only [putAll, Act.put, List.setIfInBounds_toArray, List.set_cons_zero, List.set_cons_succ]
                         rfl
                        refine two_ (i := 12) (j := 13) (Ni := some 12) (Nj := some 13) #[true, true, true, true, true, true, true, true, true, true, true, true, true, false, false, false] #[true, true, true, true, true, true, true, true, true, true, true, true, false, true, false, false] rfl rfl rfl rfl (two_of HT_.out (by kernel_rfl)) (by decide) (by decide) (fun K hK => ?_) (fun K hK => ?_)
                        ·skip
                         refine box_step ?hg (N := 12) ?hd (cs := #[.int .i64 0, .int .i64 0, .slice none 0 0, .slice none 0 0]) (t := 27) ?hr ?_; (case hd => rfl); (case hg => rfl); (case hr => first | (go_simp; done) | (go_simp; rfl))
                         intro gb506 hg w52 hbox hb
                         have BK506 := Aside0.mk (hbox)
                         have GW506 := Aside0.mk ((by rw [hg]; exact (below_size (bl HB)) : w.heap.size ≤ gb506))
                         have GE506 := Aside0.mk ((by rw [hg]; exact (below_size (bl HB)) : w.heap.size ≤ gb506))
                         have NB481_506 := nb BK481 hg
                         have NB506_481 := bn BK481 hg
                         have NB484_506 := nb BK484 hg
                         have NB506_484 := bn BK484 hg
                         replace HO_7 := Aside0.mk (Kd.R_below (by (with_reducible repeat (first | apply Kd.R_alloc | apply Kd.R_drewN | apply Kd.R_drew)); exact HO_7.out) hb)
                         replace HO_8 := Aside0.mk (Kd.R_below (by (with_reducible repeat (first | apply Kd.R_alloc | apply Kd.R_drewN | apply Kd.R_drew)); exact HO_8.out) hb)
                         replace HO_485002 := ve HO_485002 hg hb
                         replace HO_485003 := ve HO_485003 hg hb
                         replace HO498 := ve HO498 hg hb
                         replace HO501 := ve HO501 hg hb
                         replace BK481 := Aside0.mk (blk_below (bo BK481) hb)
                         replace BK484 := Aside0.mk (blk_below (bo BK484) hb)
                         replace HB := Aside0.mk (below_step (bl HB) hb)
                         clear hb hbox hg
                         refine hK.out _ _ ⟨(blk_cell BK481.out 0).trans rfl, (blk_cell BK481.out 1).trans rfl, (blk_cell BK481.out 2).trans rfl, (blk_cell BK481.out 3).trans rfl, (blk_cell BK484.out 0).trans rfl, (blk_cell BK484.out 1).trans rfl, (blk_cell BK484.out 2).trans rfl, (blk_cell BK484.out 3).trans rfl, ((HB.out.cell (World.block_lt_of_cell? w _ hw493_0)).trans hw493_0), ((HB.out.cell (World.block_lt_of_cell? w _ hw493_1)).trans hw493_1)⟩ (fun hHeld => ?_)
                         clear hK K
                         refine norm_ (a' := ?_) ?_ ?_
                         rotate_left
                         ·show Act.put _ (some 12) _ = _
                          simp only [Act.put, List.setIfInBounds_toArray, List.set_cons_zero, List.set_cons_succ, i64_w, i32_w]
                          rfl
                         exact norm_ (by first | (simp only [putAll, Act.put, List.setIfInBounds_toArray, List.set_cons_zero, List.set_cons_succ]; done) | (simp only [putAll, Act.put, List.setIfInBounds_toArray, List.set_cons_zero, List.set_cons_succ]; rfl)) (hJ8_12 (v497, v500, gb506) _ ⟨hHeld, (by (with_reducible repeat (first | apply Kd.V_alloc | apply Kd.V_drewN | apply Kd.V_drew)); exact Kd.V_mono HO498.out (fun _ hk => ⟨hk.1.1, ⟨hk.1.2.1, ⟨hk.1.2.2.1, ⟨hk.1.2.2.2, hk.2⟩⟩⟩⟩)), (by (with_reducible repeat (first | apply Kd.V_alloc | apply Kd.V_drewN | apply Kd.V_drew)); exact Kd.V_mono HO501.out (fun _ hk => ⟨hk.1.1, ⟨hk.1.2.1, ⟨hk.1.2.2.1, ⟨hk.1.2.2.2, hk.2⟩⟩⟩⟩)), (by (with_reducible repeat (first | apply Kd.V_alloc | apply Kd.V_drewN | apply Kd.V_drew)); exact Kd.V_mono HO_485002.out (fun _ hk => ⟨hk.1.1, ⟨hk.1.2.1, ⟨hk.1.2.2.1, ⟨hk.1.2.2.2, hk.2⟩⟩⟩⟩)), (by (with_reducible repeat (first | apply Kd.V_alloc | apply Kd.V_drewN | apply Kd.V_drew)); exact Kd.V_mono HO_485003.out (fun _ hk => ⟨hk.1.1, ⟨hk.1.2.1, ⟨hk.1.2.2.1, ⟨hk.1.2.2.2, hk.2⟩⟩⟩⟩)), (by (with_reducible repeat (first | apply Kd.R_alloc | apply Kd.R_drewN | apply Kd.R_drew)); exact HO_7.out), (by (with_reducible repeat (first | apply Kd.R_alloc | apply Kd.R_drewN | apply Kd.R_drew)); exact HO_8.out), (bo BK481), (bo BK484), (bo BK506), GW506.out, GE506.out, NB481_506.out, NB506_481.out, NB484_506.out, NB506_484.out, (bl HB)⟩)
                        ·skip
                         refine box_step ?hg (N := 13) ?hd (cs := #[.bool false, .int .i64 0, .int .i64 0, .int .i64 0]) (t := 32) ?hr ?_; (case hd => rfl); (case hg => rfl); (case hr => first | (go_simp; done) | (go_simp; rfl))
                         intro gb507 hg w52 hbox hb
                         have BK507 := Aside0.mk (hbox)
                         have GW507 := Aside0.mk ((by rw [hg]; exact (below_size (bl HB)) : w.heap.size ≤ gb507))
                         have GE507 := Aside0.mk ((by rw [hg]; exact (below_size (bl HB)) : w.heap.size ≤ gb507))
                         have NB481_507 := nb BK481 hg
                         have NB507_481 := bn BK481 hg
                         have NB484_507 := nb BK484 hg
                         have NB507_484 := bn BK484 hg
                         replace HO_7 := Aside0.mk (Kd.R_below (by (with_reducible repeat (first | apply Kd.R_alloc | apply Kd.R_drewN | apply Kd.R_drew)); exact HO_7.out) hb)
                         replace HO_8 := Aside0.mk (Kd.R_below (by (with_reducible repeat (first | apply Kd.R_alloc | apply Kd.R_drewN | apply Kd.R_drew)); exact HO_8.out) hb)
                         replace HO_485002 := ve HO_485002 hg hb
                         replace HO_485003 := ve HO_485003 hg hb
                         replace HO498 := ve HO498 hg hb
                         replace HO501 := ve HO501 hg hb
                         replace BK481 := Aside0.mk (blk_below (bo BK481) hb)
                         replace BK484 := Aside0.mk (blk_below (bo BK484) hb)
                         replace HB := Aside0.mk (below_step (bl HB) hb)
                         clear hb hbox hg
                         refine hK.out _ _ ⟨(blk_cell BK481.out 0).trans rfl, (blk_cell BK481.out 1).trans rfl, (blk_cell BK481.out 2).trans rfl, (blk_cell BK481.out 3).trans rfl, (blk_cell BK484.out 0).trans rfl, (blk_cell BK484.out 1).trans rfl, (blk_cell BK484.out 2).trans rfl, (blk_cell BK484.out 3).trans rfl, ((HB.out.cell (World.block_lt_of_cell? w _ hw493_0)).trans hw493_0), ((HB.out.cell (World.block_lt_of_cell? w _ hw493_1)).trans hw493_1)⟩ (fun hHeld => ?_)
                         clear hK K
                         refine norm_ (a' := ?_) ?_ ?_
                         rotate_left
                         ·show Act.put _ (some 13) _ = _
                          simp only [Act.put, List.setIfInBounds_toArray, List.set_cons_zero, List.set_cons_succ, i64_w, i32_w]
                          rfl
                         exact norm_ (by first | (simp only [putAll, Act.put, List.setIfInBounds_toArray, List.set_cons_zero, List.set_cons_succ]; done) | (simp only [putAll, Act.put, List.setIfInBounds_toArray, List.set_cons_zero, List.set_cons_succ]; rfl)) (hJ8_13 (v497, v500, gb507) _ ⟨hHeld, (by (with_reducible repeat (first | apply Kd.V_alloc | apply Kd.V_drewN | apply Kd.V_drew)); exact Kd.V_mono HO498.out (fun _ hk => ⟨hk.1.1, ⟨hk.1.2.1, ⟨hk.1.2.2.1, ⟨hk.1.2.2.2, hk.2⟩⟩⟩⟩)), (by (with_reducible repeat (first | apply Kd.V_alloc | apply Kd.V_drewN | apply Kd.V_drew)); exact Kd.V_mono HO501.out (fun _ hk => ⟨hk.1.1, ⟨hk.1.2.1, ⟨hk.1.2.2.1, ⟨hk.1.2.2.2, hk.2⟩⟩⟩⟩)), (by (with_reducible repeat (first | apply Kd.V_alloc | apply Kd.V_drewN | apply Kd.V_drew)); exact Kd.V_mono HO_485002.out (fun _ hk => ⟨hk.1.1, ⟨hk.1.2.1, ⟨hk.1.2.2.1, ⟨hk.1.2.2.2, hk.2⟩⟩⟩⟩)), (by (with_reducible repeat (first | apply Kd.V_alloc | apply Kd.V_drewN | apply Kd.V_drew)); exact Kd.V_mono HO_485003.out (fun _ hk => ⟨hk.1.1, ⟨hk.1.2.1, ⟨hk.1.2.2.1, ⟨hk.1.2.2.2, hk.2⟩⟩⟩⟩)), (by (with_reducible repeat (first | apply Kd.R_alloc | apply Kd.R_drewN | apply Kd.R_drew)); exact HO_7.out), (by (with_reducible repeat (first | apply Kd.R_alloc | apply Kd.R_drewN | apply Kd.R_drew)); exact HO_8.out), (bo BK481), (bo BK484), (bo BK507), GW507.out, GE507.out, NB481_507.out, NB507_481.out, NB484_507.out, NB507_484.out, (bl HB)⟩)
                      ·skip
                       rintro ⟨gb506, gb507⟩ w52 ⟨hS_, h0_, h1_, h2_, h3_, h4_, h5_, h6_, h7_, h8_, h9_, h10_, h11_, h12_, h13_, h14_, h15_, h16_, h17_, h18_, h19_, h20_, h21_, h22_⟩
                       have BK506 : Aside0 (w52.heap[gb506]? = some (.cells #[.int .i64 0, .int .i64 0, .slice none 0 0, .slice none 0 0] 27 (0, 0))) := ⟨h6_⟩
                       have BK507 : Aside0 (w52.heap[gb507]? = some (.cells #[.bool false, .int .i64 0, .int .i64 0, .int .i64 0] 32 (0, 0))) := ⟨h7_⟩
                       have GW506 : Aside0 (w.heap.size ≤ gb506) := ⟨h8_⟩
                       have GE506 : Aside0 (w.heap.size ≤ gb506) := ⟨h9_⟩
                       have NB481_506 : Aside0 (gb481 ≠ gb506) := ⟨h10_⟩
                       have NB506_481 : Aside0 (gb506 ≠ gb481) := ⟨h11_⟩
                       have NB484_506 : Aside0 (gb484 ≠ gb506) := ⟨h12_⟩
                       have NB506_484 : Aside0 (gb506 ≠ gb484) := ⟨h13_⟩
                       have NB507_506 : Aside0 (gb507 ≠ gb506) := ⟨h14_⟩
                       have NB506_507 : Aside0 (gb506 ≠ gb507) := ⟨h15_⟩
                       have GW507 : Aside0 (w.heap.size ≤ gb507) := ⟨h16_⟩
                       have GE507 : Aside0 (w.heap.size ≤ gb507) := ⟨h17_⟩
                       have NB481_507 : Aside0 (gb481 ≠ gb507) := ⟨h18_⟩
                       have NB507_481 : Aside0 (gb507 ≠ gb481) := ⟨h19_⟩
                       have NB484_507 : Aside0 (gb484 ≠ gb507) := ⟨h20_⟩
                       have NB507_484 : Aside0 (gb507 ≠ gb484) := ⟨h21_⟩
                       replace HO_485002 : Aside0 (Kd.V (Kd.int .i64) 3 w52 w.heap.size (fun k_ => some k_ ≠ (u7 : Value).ownBlock ∧ some k_ ≠ (u8 : Value).ownBlock ∧ k_ ≠ gb481 ∧ k_ ≠ gb484 ∧ k_ ≠ gb506 ∧ k_ ≠ gb507) (.slice Ao47 x485002_2.length co47) x485002_2) := ⟨h0_⟩
                       replace HO_485003 : Aside0 (Kd.V k50 50 w52 w.heap.size (fun k_ => some k_ ≠ (u7 : Value).ownBlock ∧ some k_ ≠ (u8 : Value).ownBlock ∧ k_ ≠ gb481 ∧ k_ ≠ gb484 ∧ k_ ≠ gb506 ∧ k_ ≠ gb507) (.slice Ao48 x485003_2.length co48) x485003_2) := ⟨h1_⟩
                       replace HO_7 : Aside0 (Kd.R (Kd.int .i64) 3 w52 w.heap.size (fun k_ => some k_ ≠ (u8 : Value).ownBlock) u7 x7_2) := ⟨h2_⟩
                       replace HO_8 : Aside0 (Kd.R (Kd.int .i64) 3 w52 w.heap.size (fun k_ => some k_ ≠ (u7 : Value).ownBlock) u8 x8_2) := ⟨h3_⟩
                       replace BK481 : Aside0 (w52.heap[gb481]? = some (.cells #[.int .i64 a0_0, .int .i64 a0_1, .int .i64 a0_2, .int .i64 a0_3] 23 (0, 0))) := ⟨h4_⟩
                       replace BK484 : Aside0 (w52.heap[gb484]? = some (.cells #[.int .i64 x485000_2, .int .i64 x485001_2, .slice Ao47 x485002_2.length co47, .slice Ao48 x485003_2.length co48] 27 (0, 0))) := ⟨h5_⟩
                       replace HB : Aside0 (Below w.heap.size w w52) := ⟨h22_⟩
                       clear h0_ h1_ h2_ h3_ h4_ h5_ h6_ h7_ h8_ h9_ h10_ h11_ h12_ h13_ h14_ h15_ h16_ h17_ h18_ h19_ h20_ h21_ h22_
                       have hHeld : w52.cell? ⟨gb481, 0, none⟩ = some (.int .i64 a0_0) ∧ w52.cell? ⟨gb481, 1, none⟩ = some (.int .i64 a0_1) ∧ w52.cell? ⟨gb481, 2, none⟩ = some (.int .i64 a0_2) ∧ w52.cell? ⟨gb481, 3, none⟩ = some (.int .i64 a0_3) ∧ w52.cell? ⟨gb484, 0, none⟩ = some (.int .i64 x485000_2) ∧ w52.cell? ⟨gb484, 1, none⟩ = some (.int .i64 x485001_2) ∧ w52.cell? ⟨gb484, 2, none⟩ = some (.slice Ao47 x485002_2.length co47) ∧ w52.cell? ⟨gb484, 3, none⟩ = some (.slice Ao48 x485003_2.length co48) ∧ w52.cell? (ad490.add ((x9_2).toNat * 2)) = some (.int .i64 ((rd_T45 l1 x9_2).f0)) ∧ w52.cell? ⟨(ad490.add ((x9_2).toNat * 2)).block, (ad490.add ((x9_2).toNat * 2)).off + 1, none⟩ = some (.int .i64 ((rd_T45 l1 x9_2).f1)) := hS_
                       refine norm_ (a' := ?_) ?_ ?_
                       rotate_left
                       ·simp only [putAll, Act.put, List.setIfInBounds_toArray, List.set_cons_zero, List.set_cons_succ]
                        rfl
                       refine one_ (i := 8) (N := some 95) #[true, true, true, true, true, true, true, true, true, false, false, false, true, true, false, false] rfl rfl (one_of HT_.out (by kernel_rfl)) (by decide) (fun K hK => ?_)
                       refine goes_ Try.func10 (by kernel_rfl) rfl #[.agg #[.int .i64 a0_0, .int .i64 a0_1, .int .i64 a0_2, .int .i64 a0_3], .agg #[.int .i64 x485000_2, .int .i64 x485001_2, .slice Ao47 x485002_2.length co47, .slice Ao48 x485003_2.length co48], .int .i64 (wrap64 (x6_2 + ((rd_T45 l1 x9_2).f0))), .int .i64 ((rd_T45 l1 x9_2).f1)] (by rfl) rfl rfl (by (try simp only [List.map_toArray, List.map_cons, List.map_nil]); first | done | rfl | (simp only [List.length_drop, List.length_take]; rfl)) ?_
                       with_reducible refine (exact_Ask.calls k4 a0_0 a0_1 a0_2 a0_3 x485000_2 x485001_2 (fun k_ => (some k_ ≠ (u7 : Value).ownBlock ∧ (some k_ ≠ (u8 : Value).ownBlock ∧ (k_ ≠ gb481 ∧ (k_ ≠ gb484 ∧ (k_ ≠ gb506 ∧ k_ ≠ gb507)))))) _ _ x485002_2 (fun k_ => (some k_ ≠ (u7 : Value).ownBlock ∧ (some k_ ≠ (u8 : Value).ownBlock ∧ (k_ ≠ gb481 ∧ (k_ ≠ gb484 ∧ (k_ ≠ gb506 ∧ k_ ≠ gb507)))))) _ _ x485003_2 (wrap64 (x6_2 + ((rd_T45 l1 x9_2).f0))) ((rd_T45 l1 x9_2).f1) t494 t495 t496 t499 t502 t503 t504 t505 _ ?side1 ?side2 A43.out).mono ?_
                       (case side1 => exact HO_485002.out)
                       (case side2 => exact HO_485003.out)
                       rintro e w53 ⟨v497, v500, rfl, ho0, ho1, hb⟩
                       refine ⟨_, rfl, ?_⟩
                       have HO498 := Aside0.mk (Kd.V_lower (Kd.V_mono (ok' := fun k_ => some k_ ≠ (u7 : Value).ownBlock ∧ some k_ ≠ (u8 : Value).ownBlock ∧ k_ ≠ gb481 ∧ k_ ≠ gb484 ∧ k_ ≠ gb506 ∧ k_ ≠ gb507) ho0 (fun k_ hk_ => ⟨Or.elim hk_ (fun hs_ => Or.elim hs_ (fun hs_ => hs_.1) (fun hs_ => hs_.1)) (fun hn_ => (Kd.fresh' (Kd.R_lt (by (with_reducible repeat (first | apply Kd.R_alloc | apply Kd.R_drewN | apply Kd.R_drew)); exact HO_7.out)) k_ hn_)), Or.elim hk_ (fun hs_ => Or.elim hs_ (fun hs_ => hs_.2.1) (fun hs_ => hs_.2.1)) (fun hn_ => (Kd.fresh' (Kd.R_lt (by (with_reducible repeat (first | apply Kd.R_alloc | apply Kd.R_drewN | apply Kd.R_drew)); exact HO_8.out)) k_ hn_)), Or.elim hk_ (fun hs_ => Or.elim hs_ (fun hs_ => hs_.2.2.1) (fun hs_ => hs_.2.2.1)) (fun hn_ => (Kd.freshB (bo BK481) k_ hn_)), Or.elim hk_ (fun hs_ => Or.elim hs_ (fun hs_ => hs_.2.2.2.1) (fun hs_ => hs_.2.2.2.1)) (fun hn_ => (Kd.freshB (bo BK484) k_ hn_)), Or.elim hk_ (fun hs_ => Or.elim hs_ (fun hs_ => hs_.2.2.2.2.1) (fun hs_ => hs_.2.2.2.2.1)) (fun hn_ => (Kd.freshB (bo BK506) k_ hn_)), Or.elim hk_ (fun hs_ => Or.elim hs_ (fun hs_ => hs_.2.2.2.2.2) (fun hs_ => hs_.2.2.2.2.2)) (fun hn_ => (Kd.freshB (bo BK507) k_ hn_))⟩)) (below_size (bl HB)))
                       have HO501 := Aside0.mk (Kd.V_lower (Kd.V_mono (ok' := fun k_ => some k_ ≠ (u7 : Value).ownBlock ∧ some k_ ≠ (u8 : Value).ownBlock ∧ k_ ≠ gb481 ∧ k_ ≠ gb484 ∧ k_ ≠ gb506 ∧ k_ ≠ gb507) ho1 (fun k_ hk_ => ⟨Or.elim hk_ (fun hs_ => Or.elim hs_ (fun hs_ => hs_.1) (fun hs_ => hs_.1)) (fun hn_ => (Kd.fresh' (Kd.R_lt (by (with_reducible repeat (first | apply Kd.R_alloc | apply Kd.R_drewN | apply Kd.R_drew)); exact HO_7.out)) k_ hn_)), Or.elim hk_ (fun hs_ => Or.elim hs_ (fun hs_ => hs_.2.1) (fun hs_ => hs_.2.1)) (fun hn_ => (Kd.fresh' (Kd.R_lt (by (with_reducible repeat (first | apply Kd.R_alloc | apply Kd.R_drewN | apply Kd.R_drew)); exact HO_8.out)) k_ hn_)), Or.elim hk_ (fun hs_ => Or.elim hs_ (fun hs_ => hs_.2.2.1) (fun hs_ => hs_.2.2.1)) (fun hn_ => (Kd.freshB (bo BK481) k_ hn_)), Or.elim hk_ (fun hs_ => Or.elim hs_ (fun hs_ => hs_.2.2.2.1) (fun hs_ => hs_.2.2.2.1)) (fun hn_ => (Kd.freshB (bo BK484) k_ hn_)), Or.elim hk_ (fun hs_ => Or.elim hs_ (fun hs_ => hs_.2.2.2.2.1) (fun hs_ => hs_.2.2.2.2.1)) (fun hn_ => (Kd.freshB (bo BK506) k_ hn_)), Or.elim hk_ (fun hs_ => Or.elim hs_ (fun hs_ => hs_.2.2.2.2.2) (fun hs_ => hs_.2.2.2.2.2)) (fun hn_ => (Kd.freshB (bo BK507) k_ hn_))⟩)) (below_size (bl HB)))
                       replace HO_7 := Aside0.mk (Kd.R_below (by (with_reducible repeat (first | apply Kd.R_alloc | apply Kd.R_drewN | apply Kd.R_drew)); exact HO_7.out) hb)
                       replace HO_8 := Aside0.mk (Kd.R_below (by (with_reducible repeat (first | apply Kd.R_alloc | apply Kd.R_drewN | apply Kd.R_drew)); exact HO_8.out) hb)
                       replace HO_485002 := vb HO_485002 hb
                       replace HO_485003 := vb HO_485003 hb
                       replace BK481 := Aside0.mk (blk_below (bo BK481) hb)
                       replace BK484 := Aside0.mk (blk_below (bo BK484) hb)
                       replace BK506 := Aside0.mk (blk_below (bo BK506) hb)
                       replace BK507 := Aside0.mk (blk_below (bo BK507) hb)
                       replace HB := Aside0.mk (below_step (bl HB) hb)
                       (try clear hb)
                       (try clear hb2)
                       (try clear hk)
                       (try clear hi)
                       (try clear ho0)
                       (try clear ho1)
                       refine hK.out _ _ ⟨(blk_cell BK481.out 0).trans rfl, (blk_cell BK481.out 1).trans rfl, (blk_cell BK481.out 2).trans rfl, (blk_cell BK481.out 3).trans rfl, (blk_cell BK484.out 0).trans rfl, (blk_cell BK484.out 1).trans rfl, (blk_cell BK484.out 2).trans rfl, (blk_cell BK484.out 3).trans rfl, ((HB.out.cell (World.block_lt_of_cell? w _ hw493_0)).trans hw493_0), ((HB.out.cell (World.block_lt_of_cell? w _ hw493_1)).trans hw493_1)⟩ (fun hHeld => ?_)
                       clear hK K
                       refine norm_ (a' := ?_) ?_ ?_
                       rotate_left
                       ·show Act.put _ (some 95) _ = _
                        simp only [Act.put, List.setIfInBounds_toArray, List.set_cons_zero, List.set_cons_succ, i64_w, i32_w]
                        rfl
                       refine pureA 9 86 HT_ ?_
                       refine pureA 10 96 HT_ ?_
                       refine pureA 11 97 HT_ ?_
                       exact norm_ (by first | (simp only [putAll, Act.put, List.setIfInBounds_toArray, List.set_cons_zero, List.set_cons_succ]; done) | (simp only [putAll, Act.put, List.setIfInBounds_toArray, List.set_cons_zero, List.set_cons_succ]; rfl)) (hJ8_12_13 (v497, v500, gb506, gb507) _ ⟨hHeld, (by (with_reducible repeat (first | apply Kd.V_alloc | apply Kd.V_drewN | apply Kd.V_drew)); exact HO498.out), (by (with_reducible repeat (first | apply Kd.V_alloc | apply Kd.V_drewN | apply Kd.V_drew)); exact HO501.out), (by (with_reducible repeat (first | apply Kd.V_alloc | apply Kd.V_drewN | apply Kd.V_drew)); exact HO_485002.out), (by (with_reducible repeat (first | apply Kd.V_alloc | apply Kd.V_drewN | apply Kd.V_drew)); exact HO_485003.out), (by (with_reducible repeat (first | apply Kd.R_alloc | apply Kd.R_drewN | apply Kd.R_drew)); exact HO_7.out), (by (with_reducible repeat (first | apply Kd.R_alloc | apply Kd.R_drewN | apply Kd.R_drew)); exact HO_8.out), (bo BK481), (bo BK484), (bo BK506), (bo BK507), GW506.out, GE506.out, NB481_506.out, NB506_481.out, NB484_506.out, NB506_484.out, NB507_506.out, NB506_507.out, GW507.out, GE507.out, NB481_507.out, NB507_481.out, NB484_507.out, NB507_484.out, (bl HB)⟩)
                     ·skip
                      rintro ⟨v497, v500, gb507⟩ w52 ⟨hS_, h0_, h1_, h2_, h3_, h4_, h5_, h6_, h7_, h8_, h9_, h10_, h11_, h12_, h13_, h14_, h15_⟩
                      have HO498 : Aside0 (Kd.V (Kd.int .i64) 3 w52 w.heap.size (fun k_ => some k_ ≠ (u7 : Value).ownBlock ∧ some k_ ≠ (u8 : Value).ownBlock ∧ k_ ≠ gb481 ∧ k_ ≠ gb484 ∧ k_ ≠ gb507) v497 t496) := ⟨h0_⟩
                      have HO501 : Aside0 (Kd.V k50 50 w52 w.heap.size (fun k_ => some k_ ≠ (u7 : Value).ownBlock ∧ some k_ ≠ (u8 : Value).ownBlock ∧ k_ ≠ gb481 ∧ k_ ≠ gb484 ∧ k_ ≠ gb507) v500 t499) := ⟨h1_⟩
                      have BK507 : Aside0 (w52.heap[gb507]? = some (.cells #[.bool false, .int .i64 0, .int .i64 0, .int .i64 0] 32 (0, 0))) := ⟨h8_⟩
                      have GW507 : Aside0 (w.heap.size ≤ gb507) := ⟨h9_⟩
                      have GE507 : Aside0 (w.heap.size ≤ gb507) := ⟨h10_⟩
                      have NB481_507 : Aside0 (gb481 ≠ gb507) := ⟨h11_⟩
                      have NB507_481 : Aside0 (gb507 ≠ gb481) := ⟨h12_⟩
                      have NB484_507 : Aside0 (gb484 ≠ gb507) := ⟨h13_⟩
                      have NB507_484 : Aside0 (gb507 ≠ gb484) := ⟨h14_⟩
                      replace HO_485002 : Aside0 (Kd.V (Kd.int .i64) 3 w52 w.heap.size (fun k_ => some k_ ≠ (u7 : Value).ownBlock ∧ some k_ ≠ (u8 : Value).ownBlock ∧ k_ ≠ gb481 ∧ k_ ≠ gb484 ∧ k_ ≠ gb507) (.slice Ao47 x485002_2.length co47) x485002_2) := ⟨h2_⟩
                      replace HO_485003 : Aside0 (Kd.V k50 50 w52 w.heap.size (fun k_ => some k_ ≠ (u7 : Value).ownBlock ∧ some k_ ≠ (u8 : Value).ownBlock ∧ k_ ≠ gb481 ∧ k_ ≠ gb484 ∧ k_ ≠ gb507) (.slice Ao48 x485003_2.length co48) x485003_2) := ⟨h3_⟩
                      replace HO_7 : Aside0 (Kd.R (Kd.int .i64) 3 w52 w.heap.size (fun k_ => some k_ ≠ (u8 : Value).ownBlock) u7 x7_2) := ⟨h4_⟩
                      replace HO_8 : Aside0 (Kd.R (Kd.int .i64) 3 w52 w.heap.size (fun k_ => some k_ ≠ (u7 : Value).ownBlock) u8 x8_2) := ⟨h5_⟩
                      replace BK481 : Aside0 (w52.heap[gb481]? = some (.cells #[.int .i64 a0_0, .int .i64 a0_1, .int .i64 a0_2, .int .i64 a0_3] 23 (0, 0))) := ⟨h6_⟩
                      replace BK484 : Aside0 (w52.heap[gb484]? = some (.cells #[.int .i64 x485000_2, .int .i64 x485001_2, .slice Ao47 x485002_2.length co47, .slice Ao48 x485003_2.length co48] 27 (0, 0))) := ⟨h7_⟩
                      replace HB : Aside0 (Below w.heap.size w w52) := ⟨h15_⟩
                      clear h0_ h1_ h2_ h3_ h4_ h5_ h6_ h7_ h8_ h9_ h10_ h11_ h12_ h13_ h14_ h15_
                      have hHeld : w52.cell? ⟨gb481, 0, none⟩ = some (.int .i64 a0_0) ∧ w52.cell? ⟨gb481, 1, none⟩ = some (.int .i64 a0_1) ∧ w52.cell? ⟨gb481, 2, none⟩ = some (.int .i64 a0_2) ∧ w52.cell? ⟨gb481, 3, none⟩ = some (.int .i64 a0_3) ∧ w52.cell? ⟨gb484, 0, none⟩ = some (.int .i64 x485000_2) ∧ w52.cell? ⟨gb484, 1, none⟩ = some (.int .i64 x485001_2) ∧ w52.cell? ⟨gb484, 2, none⟩ = some (.slice Ao47 x485002_2.length co47) ∧ w52.cell? ⟨gb484, 3, none⟩ = some (.slice Ao48 x485003_2.length co48) ∧ w52.cell? (ad490.add ((x9_2).toNat * 2)) = some (.int .i64 ((rd_T45 l1 x9_2).f0)) ∧ w52.cell? ⟨(ad490.add ((x9_2).toNat * 2)).block, (ad490.add ((x9_2).toNat * 2)).off + 1, none⟩ = some (.int .i64 ((rd_T45 l1 x9_2).f1)) := hS_
                      refine norm_ (a' := ?_) ?_ ?_
                      rotate_left
                      ·simp only [putAll, Act.put, List.setIfInBounds_toArray, List.set_cons_zero, List.set_cons_succ]
                       rfl
                      refine one_ (i := 12) (N := some 12) #[true, true, true, true, true, true, true, true, true, true, true, true, true, true, false, false] rfl rfl (one_of HT_.out (by kernel_rfl)) (by decide) (fun K hK => ?_)
                      refine box_step ?hg (N := 12) ?hd (cs := #[.int .i64 0, .int .i64 0, .slice none 0 0, .slice none 0 0]) (t := 27) ?hr ?_; (case hd => rfl); (case hg => rfl); (case hr => first | (go_simp; done) | (go_simp; rfl))
                      intro gb506 hg w53 hbox hb
                      have BK506 := Aside0.mk (hbox)
                      have GW506 := Aside0.mk ((by rw [hg]; exact (below_size (bl HB)) : w.heap.size ≤ gb506))
                      have GE506 := Aside0.mk ((by rw [hg]; exact (below_size (bl HB)) : w.heap.size ≤ gb506))
                      have NB481_506 := nb BK481 hg
                      have NB506_481 := bn BK481 hg
                      have NB484_506 := nb BK484 hg
                      have NB506_484 := bn BK484 hg
                      have NB507_506 := nb BK507 hg
                      have NB506_507 := bn BK507 hg
                      replace HO_7 := Aside0.mk (Kd.R_below (by (with_reducible repeat (first | apply Kd.R_alloc | apply Kd.R_drewN | apply Kd.R_drew)); exact HO_7.out) hb)
                      replace HO_8 := Aside0.mk (Kd.R_below (by (with_reducible repeat (first | apply Kd.R_alloc | apply Kd.R_drewN | apply Kd.R_drew)); exact HO_8.out) hb)
                      replace HO_485002 := ve HO_485002 hg hb
                      replace HO_485003 := ve HO_485003 hg hb
                      replace HO498 := ve HO498 hg hb
                      replace HO501 := ve HO501 hg hb
                      replace BK481 := Aside0.mk (blk_below (bo BK481) hb)
                      replace BK484 := Aside0.mk (blk_below (bo BK484) hb)
                      replace BK507 := Aside0.mk (blk_below (bo BK507) hb)
                      replace HB := Aside0.mk (below_step (bl HB) hb)
                      clear hb hbox hg
                      refine hK.out _ _ ⟨(blk_cell BK481.out 0).trans rfl, (blk_cell BK481.out 1).trans rfl, (blk_cell BK481.out 2).trans rfl, (blk_cell BK481.out 3).trans rfl, (blk_cell BK484.out 0).trans rfl, (blk_cell BK484.out 1).trans rfl, (blk_cell BK484.out 2).trans rfl, (blk_cell BK484.out 3).trans rfl, ((HB.out.cell (World.block_lt_of_cell? w _ hw493_0)).trans hw493_0), ((HB.out.cell (World.block_lt_of_cell? w _ hw493_1)).trans hw493_1)⟩ (fun hHeld => ?_)
                      clear hK K
                      refine norm_ (a' := ?_) ?_ ?_
                      rotate_left
                      ·show Act.put _ (some 12) _ = _
                       simp only [Act.put, List.setIfInBounds_toArray, List.set_cons_zero, List.set_cons_succ, i64_w, i32_w]
                       rfl
                      exact norm_ (by first | (simp only [putAll, Act.put, List.setIfInBounds_toArray, List.set_cons_zero, List.set_cons_succ]; done) | (simp only [putAll, Act.put, List.setIfInBounds_toArray, List.set_cons_zero, List.set_cons_succ]; rfl)) (hJ8_12_13 (v497, v500, gb506, gb507) _ ⟨hHeld, (by (with_reducible repeat (first | apply Kd.V_alloc | apply Kd.V_drewN | apply Kd.V_drew)); exact Kd.V_mono HO498.out (fun _ hk => ⟨hk.1.1, ⟨hk.1.2.1, ⟨hk.1.2.2.1, ⟨hk.1.2.2.2.1, ⟨hk.2, hk.1.2.2.2.2⟩⟩⟩⟩⟩)), (by (with_reducible repeat (first | apply Kd.V_alloc | apply Kd.V_drewN | apply Kd.V_drew)); exact Kd.V_mono HO501.out (fun _ hk => ⟨hk.1.1, ⟨hk.1.2.1, ⟨hk.1.2.2.1, ⟨hk.1.2.2.2.1, ⟨hk.2, hk.1.2.2.2.2⟩⟩⟩⟩⟩)), (by (with_reducible repeat (first | apply Kd.V_alloc | apply Kd.V_drewN | apply Kd.V_drew)); exact Kd.V_mono HO_485002.out (fun _ hk => ⟨hk.1.1, ⟨hk.1.2.1, ⟨hk.1.2.2.1, ⟨hk.1.2.2.2.1, ⟨hk.2, hk.1.2.2.2.2⟩⟩⟩⟩⟩)), (by (with_reducible repeat (first | apply Kd.V_alloc | apply Kd.V_drewN | apply Kd.V_drew)); exact Kd.V_mono HO_485003.out (fun _ hk => ⟨hk.1.1, ⟨hk.1.2.1, ⟨hk.1.2.2.1, ⟨hk.1.2.2.2.1, ⟨hk.2, hk.1.2.2.2.2⟩⟩⟩⟩⟩)), (by (with_reducible repeat (first | apply Kd.R_alloc | apply Kd.R_drewN | apply Kd.R_drew)); exact HO_7.out), (by (with_reducible repeat (first | apply Kd.R_alloc | apply Kd.R_drewN | apply Kd.R_drew)); exact HO_8.out), (bo BK481), (bo BK484), (bo BK506), (bo BK507), GW506.out, GE506.out, NB481_506.out, NB506_481.out, NB484_506.out, NB506_484.out, NB507_506.out, NB506_507.out, GW507.out, GE507.out, NB481_507.out, NB507_481.out, NB484_507.out, NB507_484.out, (bl HB)⟩)
                    ·skip
                     rintro ⟨v497, v500, gb506⟩ w52 ⟨hS_, h0_, h1_, h2_, h3_, h4_, h5_, h6_, h7_, h8_, h9_, h10_, h11_, h12_, h13_, h14_, h15_⟩
                     have HO498 : Aside0 (Kd.V (Kd.int .i64) 3 w52 w.heap.size (fun k_ => some k_ ≠ (u7 : Value).ownBlock ∧ some k_ ≠ (u8 : Value).ownBlock ∧ k_ ≠ gb481 ∧ k_ ≠ gb484 ∧ k_ ≠ gb506) v497 t496) := ⟨h0_⟩
                     have HO501 : Aside0 (Kd.V k50 50 w52 w.heap.size (fun k_ => some k_ ≠ (u7 : Value).ownBlock ∧ some k_ ≠ (u8 : Value).ownBlock ∧ k_ ≠ gb481 ∧ k_ ≠ gb484 ∧ k_ ≠ gb506) v500 t499) := ⟨h1_⟩
                     have BK506 : Aside0 (w52.heap[gb506]? = some (.cells #[.int .i64 0, .int .i64 0, .slice none 0 0, .slice none 0 0] 27 (0, 0))) := ⟨h8_⟩
                     have GW506 : Aside0 (w.heap.size ≤ gb506) := ⟨h9_⟩
                     have GE506 : Aside0 (w.heap.size ≤ gb506) := ⟨h10_⟩
                     have NB481_506 : Aside0 (gb481 ≠ gb506) := ⟨h11_⟩
                     have NB506_481 : Aside0 (gb506 ≠ gb481) := ⟨h12_⟩
                     have NB484_506 : Aside0 (gb484 ≠ gb506) := ⟨h13_⟩
                     have NB506_484 : Aside0 (gb506 ≠ gb484) := ⟨h14_⟩
                     replace HO_485002 : Aside0 (Kd.V (Kd.int .i64) 3 w52 w.heap.size (fun k_ => some k_ ≠ (u7 : Value).ownBlock ∧ some k_ ≠ (u8 : Value).ownBlock ∧ k_ ≠ gb481 ∧ k_ ≠ gb484 ∧ k_ ≠ gb506) (.slice Ao47 x485002_2.length co47) x485002_2) := ⟨h2_⟩
                     replace HO_485003 : Aside0 (Kd.V k50 50 w52 w.heap.size (fun k_ => some k_ ≠ (u7 : Value).ownBlock ∧ some k_ ≠ (u8 : Value).ownBlock ∧ k_ ≠ gb481 ∧ k_ ≠ gb484 ∧ k_ ≠ gb506) (.slice Ao48 x485003_2.length co48) x485003_2) := ⟨h3_⟩
                     replace HO_7 : Aside0 (Kd.R (Kd.int .i64) 3 w52 w.heap.size (fun k_ => some k_ ≠ (u8 : Value).ownBlock) u7 x7_2) := ⟨h4_⟩
                     replace HO_8 : Aside0 (Kd.R (Kd.int .i64) 3 w52 w.heap.size (fun k_ => some k_ ≠ (u7 : Value).ownBlock) u8 x8_2) := ⟨h5_⟩
                     replace BK481 : Aside0 (w52.heap[gb481]? = some (.cells #[.int .i64 a0_0, .int .i64 a0_1, .int .i64 a0_2, .int .i64 a0_3] 23 (0, 0))) := ⟨h6_⟩
                     replace BK484 : Aside0 (w52.heap[gb484]? = some (.cells #[.int .i64 x485000_2, .int .i64 x485001_2, .slice Ao47 x485002_2.length co47, .slice Ao48 x485003_2.length co48] 27 (0, 0))) := ⟨h7_⟩
                     replace HB : Aside0 (Below w.heap.size w w52) := ⟨h15_⟩
                     clear h0_ h1_ h2_ h3_ h4_ h5_ h6_ h7_ h8_ h9_ h10_ h11_ h12_ h13_ h14_ h15_
                     have hHeld : w52.cell? ⟨gb481, 0, none⟩ = some (.int .i64 a0_0) ∧ w52.cell? ⟨gb481, 1, none⟩ = some (.int .i64 a0_1) ∧ w52.cell? ⟨gb481, 2, none⟩ = some (.int .i64 a0_2) ∧ w52.cell? ⟨gb481, 3, none⟩ = some (.int .i64 a0_3) ∧ w52.cell? ⟨gb484, 0, none⟩ = some (.int .i64 x485000_2) ∧ w52.cell? ⟨gb484, 1, none⟩ = some (.int .i64 x485001_2) ∧ w52.cell? ⟨gb484, 2, none⟩ = some (.slice Ao47 x485002_2.length co47) ∧ w52.cell? ⟨gb484, 3, none⟩ = some (.slice Ao48 x485003_2.length co48) ∧ w52.cell? (ad490.add ((x9_2).toNat * 2)) = some (.int .i64 ((rd_T45 l1 x9_2).f0)) ∧ w52.cell? ⟨(ad490.add ((x9_2).toNat * 2)).block, (ad490.add ((x9_2).toNat * 2)).off + 1, none⟩ = some (.int .i64 ((rd_T45 l1 x9_2).f1)) := hS_
                     refine norm_ (a' := ?_) ?_ ?_
                     rotate_left
                     ·simp only [putAll, Act.put, List.setIfInBounds_toArray, List.set_cons_zero, List.set_cons_succ]
                      rfl
                     refine one_ (i := 13) (N := some 13) #[true, true, true, true, true, true, true, true, true, true, true, true, true, true, false, false] rfl rfl (one_of HT_.out (by kernel_rfl)) (by decide) (fun K hK => ?_)
                     refine box_step ?hg (N := 13) ?hd (cs := #[.bool false, .int .i64 0, .int .i64 0, .int .i64 0]) (t := 32) ?hr ?_; (case hd => rfl); (case hg => rfl); (case hr => first | (go_simp; done) | (go_simp; rfl))
                     intro gb507 hg w53 hbox hb
                     have BK507 := Aside0.mk (hbox)
                     have GW507 := Aside0.mk ((by rw [hg]; exact (below_size (bl HB)) : w.heap.size ≤ gb507))
                     have GE507 := Aside0.mk ((by rw [hg]; exact (below_size (bl HB)) : w.heap.size ≤ gb507))
                     have NB481_507 := nb BK481 hg
                     have NB507_481 := bn BK481 hg
                     have NB484_507 := nb BK484 hg
                     have NB507_484 := bn BK484 hg
                     have NB506_507 := nb BK506 hg
                     have NB507_506 := bn BK506 hg
                     replace HO_7 := Aside0.mk (Kd.R_below (by (with_reducible repeat (first | apply Kd.R_alloc | apply Kd.R_drewN | apply Kd.R_drew)); exact HO_7.out) hb)
                     replace HO_8 := Aside0.mk (Kd.R_below (by (with_reducible repeat (first | apply Kd.R_alloc | apply Kd.R_drewN | apply Kd.R_drew)); exact HO_8.out) hb)
                     replace HO_485002 := ve HO_485002 hg hb
                     replace HO_485003 := ve HO_485003 hg hb
                     replace HO498 := ve HO498 hg hb
                     replace HO501 := ve HO501 hg hb
                     replace BK481 := Aside0.mk (blk_below (bo BK481) hb)
                     replace BK484 := Aside0.mk (blk_below (bo BK484) hb)
                     replace BK506 := Aside0.mk (blk_below (bo BK506) hb)
                     replace HB := Aside0.mk (below_step (bl HB) hb)
                     clear hb hbox hg
                     refine hK.out _ _ ⟨(blk_cell BK481.out 0).trans rfl, (blk_cell BK481.out 1).trans rfl, (blk_cell BK481.out 2).trans rfl, (blk_cell BK481.out 3).trans rfl, (blk_cell BK484.out 0).trans rfl, (blk_cell BK484.out 1).trans rfl, (blk_cell BK484.out 2).trans rfl, (blk_cell BK484.out 3).trans rfl, ((HB.out.cell (World.block_lt_of_cell? w _ hw493_0)).trans hw493_0), ((HB.out.cell (World.block_lt_of_cell? w _ hw493_1)).trans hw493_1)⟩ (fun hHeld => ?_)
                     clear hK K
                     refine norm_ (a' := ?_) ?_ ?_
                     rotate_left
                     ·show Act.put _ (some 13) _ = _
                      simp only [Act.put, List.setIfInBounds_toArray, List.set_cons_zero, List.set_cons_succ, i64_w, i32_w]
                      rfl
                     exact norm_ (by first | (simp only [putAll, Act.put, List.setIfInBounds_toArray, List.set_cons_zero, List.set_cons_succ]; done) | (simp only [putAll, Act.put, List.setIfInBounds_toArray, List.set_cons_zero, List.set_cons_succ]; rfl)) (hJ8_12_13 (v497, v500, gb506, gb507) _ ⟨hHeld, (by (with_reducible repeat (first | apply Kd.V_alloc | apply Kd.V_drewN | apply Kd.V_drew)); exact Kd.V_mono HO498.out (fun _ hk => ⟨hk.1.1, ⟨hk.1.2.1, ⟨hk.1.2.2.1, ⟨hk.1.2.2.2.1, ⟨hk.1.2.2.2.2, hk.2⟩⟩⟩⟩⟩)), (by (with_reducible repeat (first | apply Kd.V_alloc | apply Kd.V_drewN | apply Kd.V_drew)); exact Kd.V_mono HO501.out (fun _ hk => ⟨hk.1.1, ⟨hk.1.2.1, ⟨hk.1.2.2.1, ⟨hk.1.2.2.2.1, ⟨hk.1.2.2.2.2, hk.2⟩⟩⟩⟩⟩)), (by (with_reducible repeat (first | apply Kd.V_alloc | apply Kd.V_drewN | apply Kd.V_drew)); exact Kd.V_mono HO_485002.out (fun _ hk => ⟨hk.1.1, ⟨hk.1.2.1, ⟨hk.1.2.2.1, ⟨hk.1.2.2.2.1, ⟨hk.1.2.2.2.2, hk.2⟩⟩⟩⟩⟩)), (by (with_reducible repeat (first | apply Kd.V_alloc | apply Kd.V_drewN | apply Kd.V_drew)); exact Kd.V_mono HO_485003.out (fun _ hk => ⟨hk.1.1, ⟨hk.1.2.1, ⟨hk.1.2.2.1, ⟨hk.1.2.2.2.1, ⟨hk.1.2.2.2.2, hk.2⟩⟩⟩⟩⟩)), (by (with_reducible repeat (first | apply Kd.R_alloc | apply Kd.R_drewN | apply Kd.R_drew)); exact HO_7.out), (by (with_reducible repeat (first | apply Kd.R_alloc | apply Kd.R_drewN | apply Kd.R_drew)); exact HO_8.out), (bo BK481), (bo BK484), (bo BK506), (bo BK507), GW506.out, GE506.out, NB481_506.out, NB506_481.out, NB484_506.out, NB506_484.out, NB507_506.out, NB506_507.out, GW507.out, GE507.out, NB481_507.out, NB507_481.out, NB484_507.out, NB507_484.out, (bl HB)⟩)
                   rintro ⟨v497, v500, gb506, gb507⟩ w53 ⟨hS_, h0_, h1_, h2_, h3_, h4_, h5_, h6_, h7_, h8_, h9_, h10_, h11_, h12_, h13_, h14_, h15_, h16_, h17_, h18_, h19_, h20_, h21_, h22_, h23_, h24_⟩
                   have HO498 : Aside0 (Kd.V (Kd.int .i64) 3 w53 w.heap.size (fun k_ => some k_ ≠ (u7 : Value).ownBlock ∧ some k_ ≠ (u8 : Value).ownBlock ∧ k_ ≠ gb481 ∧ k_ ≠ gb484 ∧ k_ ≠ gb506 ∧ k_ ≠ gb507) v497 t496) := ⟨h0_⟩
                   have HO501 : Aside0 (Kd.V k50 50 w53 w.heap.size (fun k_ => some k_ ≠ (u7 : Value).ownBlock ∧ some k_ ≠ (u8 : Value).ownBlock ∧ k_ ≠ gb481 ∧ k_ ≠ gb484 ∧ k_ ≠ gb506 ∧ k_ ≠ gb507) v500 t499) := ⟨h1_⟩
                   have BK506 : Aside0 (w53.heap[gb506]? = some (.cells #[.int .i64 0, .int .i64 0, .slice none 0 0, .slice none 0 0] 27 (0, 0))) := ⟨h8_⟩
                   have BK507 : Aside0 (w53.heap[gb507]? = some (.cells #[.bool false, .int .i64 0, .int .i64 0, .int .i64 0] 32 (0, 0))) := ⟨h9_⟩
                   have GW506 : Aside0 (w.heap.size ≤ gb506) := ⟨h10_⟩
                   have GE506 : Aside0 (w.heap.size ≤ gb506) := ⟨h11_⟩
                   have NB481_506 : Aside0 (gb481 ≠ gb506) := ⟨h12_⟩
                   have NB506_481 : Aside0 (gb506 ≠ gb481) := ⟨h13_⟩
                   have NB484_506 : Aside0 (gb484 ≠ gb506) := ⟨h14_⟩
                   have NB506_484 : Aside0 (gb506 ≠ gb484) := ⟨h15_⟩
                   have NB507_506 : Aside0 (gb507 ≠ gb506) := ⟨h16_⟩
                   have NB506_507 : Aside0 (gb506 ≠ gb507) := ⟨h17_⟩
                   have GW507 : Aside0 (w.heap.size ≤ gb507) := ⟨h18_⟩
                   have GE507 : Aside0 (w.heap.size ≤ gb507) := ⟨h19_⟩
                   have NB481_507 : Aside0 (gb481 ≠ gb507) := ⟨h20_⟩
                   have NB507_481 : Aside0 (gb507 ≠ gb481) := ⟨h21_⟩
                   have NB484_507 : Aside0 (gb484 ≠ gb507) := ⟨h22_⟩
                   have NB507_484 : Aside0 (gb507 ≠ gb484) := ⟨h23_⟩
                   replace HO_485002 : Aside0 (Kd.V (Kd.int .i64) 3 w53 w.heap.size (fun k_ => some k_ ≠ (u7 : Value).ownBlock ∧ some k_ ≠ (u8 : Value).ownBlock ∧ k_ ≠ gb481 ∧ k_ ≠ gb484 ∧ k_ ≠ gb506 ∧ k_ ≠ gb507) (.slice Ao47 x485002_2.length co47) x485002_2) := ⟨h2_⟩
                   replace HO_485003 : Aside0 (Kd.V k50 50 w53 w.heap.size (fun k_ => some k_ ≠ (u7 : Value).ownBlock ∧ some k_ ≠ (u8 : Value).ownBlock ∧ k_ ≠ gb481 ∧ k_ ≠ gb484 ∧ k_ ≠ gb506 ∧ k_ ≠ gb507) (.slice Ao48 x485003_2.length co48) x485003_2) := ⟨h3_⟩
                   replace HO_7 : Aside0 (Kd.R (Kd.int .i64) 3 w53 w.heap.size (fun k_ => some k_ ≠ (u8 : Value).ownBlock) u7 x7_2) := ⟨h4_⟩
                   replace HO_8 : Aside0 (Kd.R (Kd.int .i64) 3 w53 w.heap.size (fun k_ => some k_ ≠ (u7 : Value).ownBlock) u8 x8_2) := ⟨h5_⟩
                   replace BK481 : Aside0 (w53.heap[gb481]? = some (.cells #[.int .i64 a0_0, .int .i64 a0_1, .int .i64 a0_2, .int .i64 a0_3] 23 (0, 0))) := ⟨h6_⟩
                   replace BK484 : Aside0 (w53.heap[gb484]? = some (.cells #[.int .i64 x485000_2, .int .i64 x485001_2, .slice Ao47 x485002_2.length co47, .slice Ao48 x485003_2.length co48] 27 (0, 0))) := ⟨h7_⟩
                   replace HB : Aside0 (Below w.heap.size w w53) := ⟨h24_⟩
                   clear h0_ h1_ h2_ h3_ h4_ h5_ h6_ h7_ h8_ h9_ h10_ h11_ h12_ h13_ h14_ h15_ h16_ h17_ h18_ h19_ h20_ h21_ h22_ h23_ h24_
                   have hHeld : w53.cell? ⟨gb481, 0, none⟩ = some (.int .i64 a0_0) ∧ w53.cell? ⟨gb481, 1, none⟩ = some (.int .i64 a0_1) ∧ w53.cell? ⟨gb481, 2, none⟩ = some (.int .i64 a0_2) ∧ w53.cell? ⟨gb481, 3, none⟩ = some (.int .i64 a0_3) ∧ w53.cell? ⟨gb484, 0, none⟩ = some (.int .i64 x485000_2) ∧ w53.cell? ⟨gb484, 1, none⟩ = some (.int .i64 x485001_2) ∧ w53.cell? ⟨gb484, 2, none⟩ = some (.slice Ao47 x485002_2.length co47) ∧ w53.cell? ⟨gb484, 3, none⟩ = some (.slice Ao48 x485003_2.length co48) ∧ w53.cell? (ad490.add ((x9_2).toNat * 2)) = some (.int .i64 ((rd_T45 l1 x9_2).f0)) ∧ w53.cell? ⟨(ad490.add ((x9_2).toNat * 2)).block, (ad490.add ((x9_2).toNat * 2)).off + 1, none⟩ = some (.int .i64 ((rd_T45 l1 x9_2).f1)) := hS_
                   obtain ⟨Ao56, co56, eo56⟩ := Kd.V_slice HO498.out
                   (first | subst eo56 | (injection eo56 with f1_ f2_ f3_; have f4_ := f1_.symm; have f5_ := f3_.symm; clear f1_ f2_ f3_; subst f4_; subst f5_))
                   obtain ⟨Ao58, co58, eo58⟩ := Kd.V_slice HO501.out
                   (first | subst eo58 | (injection eo58 with f1_ f2_ f3_; have f4_ := f1_.symm; have f5_ := f3_.symm; clear f1_ f2_ f3_; subst f4_; subst f5_))
                   refine norm_ (a' := ?_) ?_ ?_
                   rotate_left
                   ·simp only [putAll, Act.put, List.setIfInBounds_toArray, List.set_cons_zero, List.set_cons_succ]
                    rfl
                   refine one_ (i := 14) (N := none) #[true, true, true, true, true, true, true, true, true, true, true, true, true, true, true, false] rfl rfl (one_of HT_.out (by kernel_rfl)) (by decide) (fun K hK => ?_)
                   have hs54 : w53.cell? ⟨gb506, 0, none⟩ = some (.int .i64 0) := (blk_cell BK506.out 0).trans rfl
                   have hfs54 := blk_frozen BK506.out 0
                   have hns54_0 := NB481_506.out
                   have hns54_1 := NB484_506.out
                   have hns54_3 := NB507_506.out
                   have hms54_0 := NB506_481.out
                   have hms54_1 := NB506_484.out
                   have hms54_3 := NB506_507.out
                   have hs55 : w53.cell? ⟨gb506, 1, none⟩ = some (.int .i64 0) := (blk_cell BK506.out 1).trans rfl
                   have hfs55 := blk_frozen BK506.out 1
                   have hns55_0 := NB481_506.out
                   have hns55_1 := NB484_506.out
                   have hns55_3 := NB507_506.out
                   have hms55_0 := NB506_481.out
                   have hms55_1 := NB506_484.out
                   have hms55_3 := NB506_507.out
                   have hs57 : w53.cell? ⟨gb506, 2, none⟩ = some (.slice none 0 0) := (blk_cell BK506.out 2).trans rfl
                   have hfs57 := blk_frozen BK506.out 2
                   have hns57_0 := NB481_506.out
                   have hns57_1 := NB484_506.out
                   have hns57_3 := NB507_506.out
                   have hms57_0 := NB506_481.out
                   have hms57_1 := NB506_484.out
                   have hms57_3 := NB506_507.out
                   have hs59 : w53.cell? ⟨gb506, 3, none⟩ = some (.slice none 0 0) := (blk_cell BK506.out 3).trans rfl
                   have hfs59 := blk_frozen BK506.out 3
                   have hns59_0 := NB481_506.out
                   have hns59_1 := NB484_506.out
                   have hns59_3 := NB507_506.out
                   have hms59_0 := NB506_481.out
                   have hms59_1 := NB506_484.out
                   have hms59_3 := NB506_507.out
                   refine skip_ (w1 := ?_) (by rfl) rfl ?_ ?_
                   rotate_left
                   ·go_simp
                    rfl
                   refine hK.out _ _ ⟨((cell_far (p := ⟨gb506, _, none⟩) NB481_506.out _).trans (((cell_far (p := ⟨gb506, _, none⟩) NB481_506.out _).trans (((cell_far (p := ⟨gb506, _, none⟩) NB481_506.out _).trans (((cell_far (p := ⟨gb506, _, none⟩) NB481_506.out _).trans (hHeld.1)))))))), ((cell_far (p := ⟨gb506, _, none⟩) NB481_506.out _).trans (((cell_far (p := ⟨gb506, _, none⟩) NB481_506.out _).trans (((cell_far (p := ⟨gb506, _, none⟩) NB481_506.out _).trans (((cell_far (p := ⟨gb506, _, none⟩) NB481_506.out _).trans (hHeld.2.1)))))))), ((cell_far (p := ⟨gb506, _, none⟩) NB481_506.out _).trans (((cell_far (p := ⟨gb506, _, none⟩) NB481_506.out _).trans (((cell_far (p := ⟨gb506, _, none⟩) NB481_506.out _).trans (((cell_far (p := ⟨gb506, _, none⟩) NB481_506.out _).trans (hHeld.2.2.1)))))))), ((cell_far (p := ⟨gb506, _, none⟩) NB481_506.out _).trans (((cell_far (p := ⟨gb506, _, none⟩) NB481_506.out _).trans (((cell_far (p := ⟨gb506, _, none⟩) NB481_506.out _).trans (((cell_far (p := ⟨gb506, _, none⟩) NB481_506.out _).trans (hHeld.2.2.2.1)))))))), ((cell_far (p := ⟨gb506, _, none⟩) NB484_506.out _).trans (((cell_far (p := ⟨gb506, _, none⟩) NB484_506.out _).trans (((cell_far (p := ⟨gb506, _, none⟩) NB484_506.out _).trans (((cell_far (p := ⟨gb506, _, none⟩) NB484_506.out _).trans (hHeld.2.2.2.2.1)))))))), ((cell_far (p := ⟨gb506, _, none⟩) NB484_506.out _).trans (((cell_far (p := ⟨gb506, _, none⟩) NB484_506.out _).trans (((cell_far (p := ⟨gb506, _, none⟩) NB484_506.out _).trans (((cell_far (p := ⟨gb506, _, none⟩) NB484_506.out _).trans (hHeld.2.2.2.2.2.1)))))))), ((cell_far (p := ⟨gb506, _, none⟩) NB484_506.out _).trans (((cell_far (p := ⟨gb506, _, none⟩) NB484_506.out _).trans (((cell_far (p := ⟨gb506, _, none⟩) NB484_506.out _).trans (((cell_far (p := ⟨gb506, _, none⟩) NB484_506.out _).trans (hHeld.2.2.2.2.2.2.1)))))))), ((cell_far (p := ⟨gb506, _, none⟩) NB484_506.out _).trans (((cell_far (p := ⟨gb506, _, none⟩) NB484_506.out _).trans (((cell_far (p := ⟨gb506, _, none⟩) NB484_506.out _).trans (((cell_far (p := ⟨gb506, _, none⟩) NB484_506.out _).trans (hHeld.2.2.2.2.2.2.2.1)))))))), ((cell_far (p := ⟨gb506, _, none⟩) (by first | exact Nat.ne_of_lt (Nat.lt_of_lt_of_le (by have := World.block_lt_of_cell? _ _ hw493_0; first | rwa [add_block] at this | exact this) GW506.out) | (rw [add_block]; exact Nat.ne_of_lt (Nat.lt_of_lt_of_le (by have := World.block_lt_of_cell? _ _ hw493_0; first | rwa [add_block] at this | exact this) GW506.out)) | (show (Addr.add _ _).block ≠ _; rw [add_block]; exact Nat.ne_of_lt (Nat.lt_of_lt_of_le (by have := World.block_lt_of_cell? _ _ hw493_0; first | rwa [add_block] at this | exact this) GW506.out)) | (dsimp only; exact Nat.ne_of_lt (Nat.lt_of_lt_of_le (by have := World.block_lt_of_cell? _ _ hw493_0; first | rwa [add_block] at this | exact this) GW506.out))) _).trans (((cell_far (p := ⟨gb506, _, none⟩) (by first | exact Nat.ne_of_lt (Nat.lt_of_lt_of_le (by have := World.block_lt_of_cell? _ _ hw493_0; first | rwa [add_block] at this | exact this) GW506.out) | (rw [add_block]; exact Nat.ne_of_lt (Nat.lt_of_lt_of_le (by have := World.block_lt_of_cell? _ _ hw493_0; first | rwa [add_block] at this | exact this) GW506.out)) | (show (Addr.add _ _).block ≠ _; rw [add_block]; exact Nat.ne_of_lt (Nat.lt_of_lt_of_le (by have := World.block_lt_of_cell? _ _ hw493_0; first | rwa [add_block] at this | exact this) GW506.out)) | (dsimp only; exact Nat.ne_of_lt (Nat.lt_of_lt_of_le (by have := World.block_lt_of_cell? _ _ hw493_0; first | rwa [add_block] at this | exact this) GW506.out))) _).trans (((cell_far (p := ⟨gb506, _, none⟩) (by first | exact Nat.ne_of_lt (Nat.lt_of_lt_of_le (by have := World.block_lt_of_cell? _ _ hw493_0; first | rwa [add_block] at this | exact this) GW506.out) | (rw [add_block]; exact Nat.ne_of_lt (Nat.lt_of_lt_of_le (by have := World.block_lt_of_cell? _ _ hw493_0; first | rwa [add_block] at this | exact this) GW506.out)) | (show (Addr.add _ _).block ≠ _; rw [add_block]; exact Nat.ne_of_lt (Nat.lt_of_lt_of_le (by have := World.block_lt_of_cell? _ _ hw493_0; first | rwa [add_block] at this | exact this) GW506.out)) | (dsimp only; exact Nat.ne_of_lt (Nat.lt_of_lt_of_le (by have := World.block_lt_of_cell? _ _ hw493_0; first | rwa [add_block] at this | exact this) GW506.out))) _).trans (((cell_far (p := ⟨gb506, _, none⟩) (by first | exact Nat.ne_of_lt (Nat.lt_of_lt_of_le (by have := World.block_lt_of_cell? _ _ hw493_0; first | rwa [add_block] at this | exact this) GW506.out) | (rw [add_block]; exact Nat.ne_of_lt (Nat.lt_of_lt_of_le (by have := World.block_lt_of_cell? _ _ hw493_0; first | rwa [add_block] at this | exact this) GW506.out)) | (show (Addr.add _ _).block ≠ _; rw [add_block]; exact Nat.ne_of_lt (Nat.lt_of_lt_of_le (by have := World.block_lt_of_cell? _ _ hw493_0; first | rwa [add_block] at this | exact this) GW506.out)) | (dsimp only; exact Nat.ne_of_lt (Nat.lt_of_lt_of_le (by have := World.block_lt_of_cell? _ _ hw493_0; first | rwa [add_block] at this | exact this) GW506.out))) _).trans (hHeld.2.2.2.2.2.2.2.2.1)))))))), ((cell_far (p := ⟨gb506, _, none⟩) (by first | exact Nat.ne_of_lt (Nat.lt_of_lt_of_le (by have := World.block_lt_of_cell? _ _ hw493_1; first | rwa [add_block] at this | exact this) GW506.out) | (rw [add_block]; exact Nat.ne_of_lt (Nat.lt_of_lt_of_le (by have := World.block_lt_of_cell? _ _ hw493_1; first | rwa [add_block] at this | exact this) GW506.out)) | (show (Addr.add _ _).block ≠ _; rw [add_block]; exact Nat.ne_of_lt (Nat.lt_of_lt_of_le (by have := World.block_lt_of_cell? _ _ hw493_1; first | rwa [add_block] at this | exact this) GW506.out)) | (dsimp only; exact Nat.ne_of_lt (Nat.lt_of_lt_of_le (by have := World.block_lt_of_cell? _ _ hw493_1; first | rwa [add_block] at this | exact this) GW506.out))) _).trans (((cell_far (p := ⟨gb506, _, none⟩) (by first | exact Nat.ne_of_lt (Nat.lt_of_lt_of_le (by have := World.block_lt_of_cell? _ _ hw493_1; first | rwa [add_block] at this | exact this) GW506.out) | (rw [add_block]; exact Nat.ne_of_lt (Nat.lt_of_lt_of_le (by have := World.block_lt_of_cell? _ _ hw493_1; first | rwa [add_block] at this | exact this) GW506.out)) | (show (Addr.add _ _).block ≠ _; rw [add_block]; exact Nat.ne_of_lt (Nat.lt_of_lt_of_le (by have := World.block_lt_of_cell? _ _ hw493_1; first | rwa [add_block] at this | exact this) GW506.out)) | (dsimp only; exact Nat.ne_of_lt (Nat.lt_of_lt_of_le (by have := World.block_lt_of_cell? _ _ hw493_1; first | rwa [add_block] at this | exact this) GW506.out))) _).trans (((cell_far (p := ⟨gb506, _, none⟩) (by first | exact Nat.ne_of_lt (Nat.lt_of_lt_of_le (by have := World.block_lt_of_cell? _ _ hw493_1; first | rwa [add_block] at this | exact this) GW506.out) | (rw [add_block]; exact Nat.ne_of_lt (Nat.lt_of_lt_of_le (by have := World.block_lt_of_cell? _ _ hw493_1; first | rwa [add_block] at this | exact this) GW506.out)) | (show (Addr.add _ _).block ≠ _; rw [add_block]; exact Nat.ne_of_lt (Nat.lt_of_lt_of_le (by have := World.block_lt_of_cell? _ _ hw493_1; first | rwa [add_block] at this | exact this) GW506.out)) | (dsimp only; exact Nat.ne_of_lt (Nat.lt_of_lt_of_le (by have := World.block_lt_of_cell? _ _ hw493_1; first | rwa [add_block] at this | exact this) GW506.out))) _).trans (((cell_far (p := ⟨gb506, _, none⟩) (by first | exact Nat.ne_of_lt (Nat.lt_of_lt_of_le (by have := World.block_lt_of_cell? _ _ hw493_1; first | rwa [add_block] at this | exact this) GW506.out) | (rw [add_block]; exact Nat.ne_of_lt (Nat.lt_of_lt_of_le (by have := World.block_lt_of_cell? _ _ hw493_1; first | rwa [add_block] at this | exact this) GW506.out)) | (show (Addr.add _ _).block ≠ _; rw [add_block]; exact Nat.ne_of_lt (Nat.lt_of_lt_of_le (by have := World.block_lt_of_cell? _ _ hw493_1; first | rwa [add_block] at this | exact this) GW506.out)) | (dsimp only; exact Nat.ne_of_lt (Nat.lt_of_lt_of_le (by have := World.block_lt_of_cell? _ _ hw493_1; first | rwa [add_block] at this | exact this) GW506.out))) _).trans (hHeld.2.2.2.2.2.2.2.2.2))))))))⟩ (fun hHeld => ?_)
                   clear hK K
                   refine one_ (i := 15) (N := none) #[true, true, true, true, true, true, true, true, true, true, true, true, true, true, true, true] rfl rfl (one_of HT_.out (by kernel_rfl)) (by decide) (fun K hK => ?_)
                   have hs60 : w53.cell? ⟨gb507, 0, none⟩ = some (.bool false) := (blk_cell BK507.out 0).trans rfl
                   have hfs60 := blk_frozen BK507.out 0
                   have hns60_0 := NB481_507.out
                   have hns60_1 := NB484_507.out
                   have hns60_2 := NB506_507.out
                   have hms60_0 := NB507_481.out
                   have hms60_1 := NB507_484.out
                   have hms60_2 := NB507_506.out
                   have hs61 : w53.cell? ⟨gb507, 1, none⟩ = some (.int .i64 0) := (blk_cell BK507.out 1).trans rfl
                   have hfs61 := blk_frozen BK507.out 1
                   have hns61_0 := NB481_507.out
                   have hns61_1 := NB484_507.out
                   have hns61_2 := NB506_507.out
                   have hms61_0 := NB507_481.out
                   have hms61_1 := NB507_484.out
                   have hms61_2 := NB507_506.out
                   have hs62 : w53.cell? ⟨gb507, 2, none⟩ = some (.int .i64 0) := (blk_cell BK507.out 2).trans rfl
                   have hfs62 := blk_frozen BK507.out 2
                   have hns62_0 := NB481_507.out
                   have hns62_1 := NB484_507.out
                   have hns62_2 := NB506_507.out
                   have hms62_0 := NB507_481.out
                   have hms62_1 := NB507_484.out
                   have hms62_2 := NB507_506.out
                   have hs63 : w53.cell? ⟨gb507, 3, none⟩ = some (.int .i64 0) := (blk_cell BK507.out 3).trans rfl
                   have hfs63 := blk_frozen BK507.out 3
                   have hns63_0 := NB481_507.out
                   have hns63_1 := NB484_507.out
                   have hns63_2 := NB506_507.out
                   have hms63_0 := NB507_481.out
                   have hms63_1 := NB507_484.out
                   have hms63_2 := NB507_506.out
                   refine skip_ (w1 := ?_) (by rfl) rfl ?_ ?_
                   rotate_left
                   ·go_simp
                    rfl
                   refine hK.out _ _ ⟨((cell_far (p := ⟨gb507, _, none⟩) NB481_507.out _).trans (((cell_far (p := ⟨gb507, _, none⟩) NB481_507.out _).trans (((cell_far (p := ⟨gb507, _, none⟩) NB481_507.out _).trans (((cell_far (p := ⟨gb507, _, none⟩) NB481_507.out _).trans (hHeld.1)))))))), ((cell_far (p := ⟨gb507, _, none⟩) NB481_507.out _).trans (((cell_far (p := ⟨gb507, _, none⟩) NB481_507.out _).trans (((cell_far (p := ⟨gb507, _, none⟩) NB481_507.out _).trans (((cell_far (p := ⟨gb507, _, none⟩) NB481_507.out _).trans (hHeld.2.1)))))))), ((cell_far (p := ⟨gb507, _, none⟩) NB481_507.out _).trans (((cell_far (p := ⟨gb507, _, none⟩) NB481_507.out _).trans (((cell_far (p := ⟨gb507, _, none⟩) NB481_507.out _).trans (((cell_far (p := ⟨gb507, _, none⟩) NB481_507.out _).trans (hHeld.2.2.1)))))))), ((cell_far (p := ⟨gb507, _, none⟩) NB481_507.out _).trans (((cell_far (p := ⟨gb507, _, none⟩) NB481_507.out _).trans (((cell_far (p := ⟨gb507, _, none⟩) NB481_507.out _).trans (((cell_far (p := ⟨gb507, _, none⟩) NB481_507.out _).trans (hHeld.2.2.2.1)))))))), ((cell_far (p := ⟨gb507, _, none⟩) NB484_507.out _).trans (((cell_far (p := ⟨gb507, _, none⟩) NB484_507.out _).trans (((cell_far (p := ⟨gb507, _, none⟩) NB484_507.out _).trans (((cell_far (p := ⟨gb507, _, none⟩) NB484_507.out _).trans (hHeld.2.2.2.2.1)))))))), ((cell_far (p := ⟨gb507, _, none⟩) NB484_507.out _).trans (((cell_far (p := ⟨gb507, _, none⟩) NB484_507.out _).trans (((cell_far (p := ⟨gb507, _, none⟩) NB484_507.out _).trans (((cell_far (p := ⟨gb507, _, none⟩) NB484_507.out _).trans (hHeld.2.2.2.2.2.1)))))))), ((cell_far (p := ⟨gb507, _, none⟩) NB484_507.out _).trans (((cell_far (p := ⟨gb507, _, none⟩) NB484_507.out _).trans (((cell_far (p := ⟨gb507, _, none⟩) NB484_507.out _).trans (((cell_far (p := ⟨gb507, _, none⟩) NB484_507.out _).trans (hHeld.2.2.2.2.2.2.1)))))))), ((cell_far (p := ⟨gb507, _, none⟩) NB484_507.out _).trans (((cell_far (p := ⟨gb507, _, none⟩) NB484_507.out _).trans (((cell_far (p := ⟨gb507, _, none⟩) NB484_507.out _).trans (((cell_far (p := ⟨gb507, _, none⟩) NB484_507.out _).trans (hHeld.2.2.2.2.2.2.2.1)))))))), ((cell_far (p := ⟨gb507, _, none⟩) (by first | exact Nat.ne_of_lt (Nat.lt_of_lt_of_le (by have := World.block_lt_of_cell? _ _ hw493_0; first | rwa [add_block] at this | exact this) GW507.out) | (rw [add_block]; exact Nat.ne_of_lt (Nat.lt_of_lt_of_le (by have := World.block_lt_of_cell? _ _ hw493_0; first | rwa [add_block] at this | exact this) GW507.out)) | (show (Addr.add _ _).block ≠ _; rw [add_block]; exact Nat.ne_of_lt (Nat.lt_of_lt_of_le (by have := World.block_lt_of_cell? _ _ hw493_0; first | rwa [add_block] at this | exact this) GW507.out)) | (dsimp only; exact Nat.ne_of_lt (Nat.lt_of_lt_of_le (by have := World.block_lt_of_cell? _ _ hw493_0; first | rwa [add_block] at this | exact this) GW507.out))) _).trans (((cell_far (p := ⟨gb507, _, none⟩) (by first | exact Nat.ne_of_lt (Nat.lt_of_lt_of_le (by have := World.block_lt_of_cell? _ _ hw493_0; first | rwa [add_block] at this | exact this) GW507.out) | (rw [add_block]; exact Nat.ne_of_lt (Nat.lt_of_lt_of_le (by have := World.block_lt_of_cell? _ _ hw493_0; first | rwa [add_block] at this | exact this) GW507.out)) | (show (Addr.add _ _).block ≠ _; rw [add_block]; exact Nat.ne_of_lt (Nat.lt_of_lt_of_le (by have := World.block_lt_of_cell? _ _ hw493_0; first | rwa [add_block] at this | exact this) GW507.out)) | (dsimp only; exact Nat.ne_of_lt (Nat.lt_of_lt_of_le (by have := World.block_lt_of_cell? _ _ hw493_0; first | rwa [add_block] at this | exact this) GW507.out))) _).trans (((cell_far (p := ⟨gb507, _, none⟩) (by first | exact Nat.ne_of_lt (Nat.lt_of_lt_of_le (by have := World.block_lt_of_cell? _ _ hw493_0; first | rwa [add_block] at this | exact this) GW507.out) | (rw [add_block]; exact Nat.ne_of_lt (Nat.lt_of_lt_of_le (by have := World.block_lt_of_cell? _ _ hw493_0; first | rwa [add_block] at this | exact this) GW507.out)) | (show (Addr.add _ _).block ≠ _; rw [add_block]; exact Nat.ne_of_lt (Nat.lt_of_lt_of_le (by have := World.block_lt_of_cell? _ _ hw493_0; first | rwa [add_block] at this | exact this) GW507.out)) | (dsimp only; exact Nat.ne_of_lt (Nat.lt_of_lt_of_le (by have := World.block_lt_of_cell? _ _ hw493_0; first | rwa [add_block] at this | exact this) GW507.out))) _).trans (((cell_far (p := ⟨gb507, _, none⟩) (by first | exact Nat.ne_of_lt (Nat.lt_of_lt_of_le (by have := World.block_lt_of_cell? _ _ hw493_0; first | rwa [add_block] at this | exact this) GW507.out) | (rw [add_block]; exact Nat.ne_of_lt (Nat.lt_of_lt_of_le (by have := World.block_lt_of_cell? _ _ hw493_0; first | rwa [add_block] at this | exact this) GW507.out)) | (show (Addr.add _ _).block ≠ _; rw [add_block]; exact Nat.ne_of_lt (Nat.lt_of_lt_of_le (by have := World.block_lt_of_cell? _ _ hw493_0; first | rwa [add_block] at this | exact this) GW507.out)) | (dsimp only; exact Nat.ne_of_lt (Nat.lt_of_lt_of_le (by have := World.block_lt_of_cell? _ _ hw493_0; first | rwa [add_block] at this | exact this) GW507.out))) _).trans (hHeld.2.2.2.2.2.2.2.2.1)))))))), ((cell_far (p := ⟨gb507, _, none⟩) (by first | exact Nat.ne_of_lt (Nat.lt_of_lt_of_le (by have := World.block_lt_of_cell? _ _ hw493_1; first | rwa [add_block] at this | exact this) GW507.out) | (rw [add_block]; exact Nat.ne_of_lt (Nat.lt_of_lt_of_le (by have := World.block_lt_of_cell? _ _ hw493_1; first | rwa [add_block] at this | exact this) GW507.out)) | (show (Addr.add _ _).block ≠ _; rw [add_block]; exact Nat.ne_of_lt (Nat.lt_of_lt_of_le (by have := World.block_lt_of_cell? _ _ hw493_1; first | rwa [add_block] at this | exact this) GW507.out)) | (dsimp only; exact Nat.ne_of_lt (Nat.lt_of_lt_of_le (by have := World.block_lt_of_cell? _ _ hw493_1; first | rwa [add_block] at this | exact this) GW507.out))) _).trans (((cell_far (p := ⟨gb507, _, none⟩) (by first | exact Nat.ne_of_lt (Nat.lt_of_lt_of_le (by have := World.block_lt_of_cell? _ _ hw493_1; first | rwa [add_block] at this | exact this) GW507.out) | (rw [add_block]; exact Nat.ne_of_lt (Nat.lt_of_lt_of_le (by have := World.block_lt_of_cell? _ _ hw493_1; first | rwa [add_block] at this | exact this) GW507.out)) | (show (Addr.add _ _).block ≠ _; rw [add_block]; exact Nat.ne_of_lt (Nat.lt_of_lt_of_le (by have := World.block_lt_of_cell? _ _ hw493_1; first | rwa [add_block] at this | exact this) GW507.out)) | (dsimp only; exact Nat.ne_of_lt (Nat.lt_of_lt_of_le (by have := World.block_lt_of_cell? _ _ hw493_1; first | rwa [add_block] at this | exact this) GW507.out))) _).trans (((cell_far (p := ⟨gb507, _, none⟩) (by first | exact Nat.ne_of_lt (Nat.lt_of_lt_of_le (by have := World.block_lt_of_cell? _ _ hw493_1; first | rwa [add_block] at this | exact this) GW507.out) | (rw [add_block]; exact Nat.ne_of_lt (Nat.lt_of_lt_of_le (by have := World.block_lt_of_cell? _ _ hw493_1; first | rwa [add_block] at this | exact this) GW507.out)) | (show (Addr.add _ _).block ≠ _; rw [add_block]; exact Nat.ne_of_lt (Nat.lt_of_lt_of_le (by have := World.block_lt_of_cell? _ _ hw493_1; first | rwa [add_block] at this | exact this) GW507.out)) | (dsimp only; exact Nat.ne_of_lt (Nat.lt_of_lt_of_le (by have := World.block_lt_of_cell? _ _ hw493_1; first | rwa [add_block] at this | exact this) GW507.out))) _).trans (((cell_far (p := ⟨gb507, _, none⟩) (by first | exact Nat.ne_of_lt (Nat.lt_of_lt_of_le (by have := World.block_lt_of_cell? _ _ hw493_1; first | rwa [add_block] at this | exact this) GW507.out) | (rw [add_block]; exact Nat.ne_of_lt (Nat.lt_of_lt_of_le (by have := World.block_lt_of_cell? _ _ hw493_1; first | rwa [add_block] at this | exact this) GW507.out)) | (show (Addr.add _ _).block ≠ _; rw [add_block]; exact Nat.ne_of_lt (Nat.lt_of_lt_of_le (by have := World.block_lt_of_cell? _ _ hw493_1; first | rwa [add_block] at this | exact this) GW507.out)) | (dsimp only; exact Nat.ne_of_lt (Nat.lt_of_lt_of_le (by have := World.block_lt_of_cell? _ _ hw493_1; first | rwa [add_block] at this | exact this) GW507.out))) _).trans (hHeld.2.2.2.2.2.2.2.2.2))))))))⟩ (fun hHeld => ?_)
                   clear hK K
                   refine done_ (done_of HT_.out (by kernel_rfl)) ?_
                   have hnb64 := NB506_481.out
                   have hnc64 := NB481_506.out
                   have hnb65 := NB506_484.out
                   have hnc65 := NB484_506.out
                   have hnb66 := NB506_507.out
                   have hnc66 := NB507_506.out
                   obtain ⟨hcz67_0, hcz67_1, hcz67_2, hcz67_3⟩ := ce4 BK506
                   obtain ⟨hfz67_0, hfz67_1, hfz67_2, hfz67_3⟩ := fr4 BK506
                   have hnb68 := NB484_481.out
                   have hnc68 := NB481_484.out
                   have hnb69 := NB484_507.out
                   have hnc69 := NB507_484.out
                   obtain ⟨hcz70_0, hcz70_1, hcz70_2, hcz70_3⟩ := ce4 BK484
                   obtain ⟨hfz70_0, hfz70_1, hfz70_2, hfz70_3⟩ := fr4 BK484
                   try go_wp2_with (first | ((with_reducible refine gate_store (t := 27) (p := 5) rfl ?_); refine store_event (t := 27) (p := 5) (v := ?vo_w71) (w1 := ((((((((((((w53.setCell ⟨gb506, 0, none⟩ (.int .i64 t494)).setCell ⟨gb506, 1, none⟩ (.int .i64 t495)).setCell ⟨gb506, 2, none⟩ (.slice Ao56 t496.length co56)).setCell ⟨gb506, 3, none⟩ (.slice Ao58 t499.length co58)).setCell ⟨gb507, 0, none⟩ (.bool t502)).setCell ⟨gb507, 1, none⟩ (.int .i64 t503)).setCell ⟨gb507, 2, none⟩ (.int .i64 t504)).setCell ⟨gb507, 3, none⟩ (.int .i64 t505)).setCell ⟨gb484, 0, none⟩ (.int .i64 t494)).setCell ⟨gb484, 1, none⟩ (.int .i64 t495)).setCell ⟨gb484, 2, none⟩ (.slice Ao56 t496.length co56)).setCell ⟨gb484, 3, none⟩ (.slice Ao58 t499.length co58))) ?hg ?ho ?hn ?hr ?_; (case ho => rfl); (case hg => rfl); (case hn => rfl); (case hr => first | (go_simp; done) | (go_simp; rfl)); intro w71 hw; replace HO_7 : Aside0 (Kd.R (Kd.int .i64) 3 w71 w.heap.size (fun k_ => some k_ ≠ (u8 : Value).ownBlock) u7 x7_2) := ⟨(by rw [hw]; exact (by (with_reducible repeat (first | apply Kd.R_alloc | apply Kd.R_drewN | apply Kd.R_drew)); exact Kd.R_mono (Kd.R_far (p := ⟨gb484, 3, none⟩) (Kd.R_far (p := ⟨gb484, 2, none⟩) (Kd.R_far (p := ⟨gb484, 1, none⟩) (Kd.R_far (p := ⟨gb484, 0, none⟩) (Kd.R_far (p := ⟨gb507, 3, none⟩) (Kd.R_far (p := ⟨gb507, 2, none⟩) (Kd.R_far (p := ⟨gb507, 1, none⟩) (Kd.R_far (p := ⟨gb507, 0, none⟩) (Kd.R_far (p := ⟨gb506, 3, none⟩) (Kd.R_far (p := ⟨gb506, 2, none⟩) (Kd.R_far (p := ⟨gb506, 1, none⟩) (Kd.R_far (p := ⟨gb506, 0, none⟩) (Kd.R_types (Kd.R_types (Kd.R_types HO_7.out BK506.out (by decide)) BK507.out (by decide)) BK484.out (by decide)) (fun _ hk => hk.1.1.2) (.int .i64 t494)) (fun _ hk => hk.1.1.2) (.int .i64 t495)) (fun _ hk => hk.1.1.2) (.slice Ao56 t496.length co56)) (fun _ hk => hk.1.1.2) (.slice Ao58 t499.length co58)) (fun _ hk => hk.1.2) (.bool t502)) (fun _ hk => hk.1.2) (.int .i64 t503)) (fun _ hk => hk.1.2) (.int .i64 t504)) (fun _ hk => hk.1.2) (.int .i64 t505)) (fun _ hk => hk.2) (.int .i64 t494)) (fun _ hk => hk.2) (.int .i64 t495)) (fun _ hk => hk.2) (.slice Ao56 t496.length co56)) (fun _ hk => hk.2) (.slice Ao58 t499.length co58)) (fun _ hk => hk.1.1.1)))⟩; replace HO_8 : Aside0 (Kd.R (Kd.int .i64) 3 w71 w.heap.size (fun k_ => some k_ ≠ (u7 : Value).ownBlock) u8 x8_2) := ⟨(by rw [hw]; exact (by (with_reducible repeat (first | apply Kd.R_alloc | apply Kd.R_drewN | apply Kd.R_drew)); exact Kd.R_mono (Kd.R_far (p := ⟨gb484, 3, none⟩) (Kd.R_far (p := ⟨gb484, 2, none⟩) (Kd.R_far (p := ⟨gb484, 1, none⟩) (Kd.R_far (p := ⟨gb484, 0, none⟩) (Kd.R_far (p := ⟨gb507, 3, none⟩) (Kd.R_far (p := ⟨gb507, 2, none⟩) (Kd.R_far (p := ⟨gb507, 1, none⟩) (Kd.R_far (p := ⟨gb507, 0, none⟩) (Kd.R_far (p := ⟨gb506, 3, none⟩) (Kd.R_far (p := ⟨gb506, 2, none⟩) (Kd.R_far (p := ⟨gb506, 1, none⟩) (Kd.R_far (p := ⟨gb506, 0, none⟩) (Kd.R_types (Kd.R_types (Kd.R_types HO_8.out BK506.out (by decide)) BK507.out (by decide)) BK484.out (by decide)) (fun _ hk => hk.1.1.2) (.int .i64 t494)) (fun _ hk => hk.1.1.2) (.int .i64 t495)) (fun _ hk => hk.1.1.2) (.slice Ao56 t496.length co56)) (fun _ hk => hk.1.1.2) (.slice Ao58 t499.length co58)) (fun _ hk => hk.1.2) (.bool t502)) (fun _ hk => hk.1.2) (.int .i64 t503)) (fun _ hk => hk.1.2) (.int .i64 t504)) (fun _ hk => hk.1.2) (.int .i64 t505)) (fun _ hk => hk.2) (.int .i64 t494)) (fun _ hk => hk.2) (.int .i64 t495)) (fun _ hk => hk.2) (.slice Ao56 t496.length co56)) (fun _ hk => hk.2) (.slice Ao58 t499.length co58)) (fun _ hk => hk.1.1.1)))⟩; replace HO_485002 : Aside0 (Kd.V (Kd.int .i64) 3 w71 w.heap.size (fun k_ => some k_ ≠ (u7 : Value).ownBlock ∧ some k_ ≠ (u8 : Value).ownBlock ∧ k_ ≠ gb481 ∧ k_ ≠ gb484 ∧ k_ ≠ gb506 ∧ k_ ≠ gb507) (.slice Ao47 x485002_2.length co47) x485002_2) := ⟨(by rw [hw]; exact (by (with_reducible repeat (first | apply Kd.V_alloc | apply Kd.V_drewN | apply Kd.V_drew)); exact Kd.V_mono (Kd.V_far (p := ⟨gb484, 3, none⟩) (Kd.V_far (p := ⟨gb484, 2, none⟩) (Kd.V_far (p := ⟨gb484, 1, none⟩) (Kd.V_far (p := ⟨gb484, 0, none⟩) (Kd.V_far (p := ⟨gb507, 3, none⟩) (Kd.V_far (p := ⟨gb507, 2, none⟩) (Kd.V_far (p := ⟨gb507, 1, none⟩) (Kd.V_far (p := ⟨gb507, 0, none⟩) (Kd.V_far (p := ⟨gb506, 3, none⟩) (Kd.V_far (p := ⟨gb506, 2, none⟩) (Kd.V_far (p := ⟨gb506, 1, none⟩) (Kd.V_far (p := ⟨gb506, 0, none⟩) (Kd.V_mono (Kd.V_mono (Kd.V_mono HO_485002.out (fun k_ hk => (⟨hk, hk.2.2.2.2.1⟩ : _ ∧ k_ ≠ gb506))) (fun k_ hk => (⟨hk, hk.1.2.2.2.2.2⟩ : _ ∧ k_ ≠ gb507))) (fun k_ hk => (⟨hk, hk.1.1.2.2.2.1⟩ : _ ∧ k_ ≠ gb484))) (fun _ hk => hk.1.1.2) (.int .i64 t494)) (fun _ hk => hk.1.1.2) (.int .i64 t495)) (fun _ hk => hk.1.1.2) (.slice Ao56 t496.length co56)) (fun _ hk => hk.1.1.2) (.slice Ao58 t499.length co58)) (fun _ hk => hk.1.2) (.bool t502)) (fun _ hk => hk.1.2) (.int .i64 t503)) (fun _ hk => hk.1.2) (.int .i64 t504)) (fun _ hk => hk.1.2) (.int .i64 t505)) (fun _ hk => hk.2) (.int .i64 t494)) (fun _ hk => hk.2) (.int .i64 t495)) (fun _ hk => hk.2) (.slice Ao56 t496.length co56)) (fun _ hk => hk.2) (.slice Ao58 t499.length co58)) (fun _ hk => ⟨hk.1.1.1.1, ⟨hk.1.1.1.2.1, ⟨hk.1.1.1.2.2.1, ⟨hk.1.1.1.2.2.2.1, ⟨hk.1.1.1.2.2.2.2.1, hk.1.1.1.2.2.2.2.2⟩⟩⟩⟩⟩)))⟩; replace HO_485003 : Aside0 (Kd.V k50 50 w71 w.heap.size (fun k_ => some k_ ≠ (u7 : Value).ownBlock ∧ some k_ ≠ (u8 : Value).ownBlock ∧ k_ ≠ gb481 ∧ k_ ≠ gb484 ∧ k_ ≠ gb506 ∧ k_ ≠ gb507) (.slice Ao48 x485003_2.length co48) x485003_2) := ⟨(by rw [hw]; exact (by (with_reducible repeat (first | apply Kd.V_alloc | apply Kd.V_drewN | apply Kd.V_drew)); exact Kd.V_mono (Kd.V_far (p := ⟨gb484, 3, none⟩) (Kd.V_far (p := ⟨gb484, 2, none⟩) (Kd.V_far (p := ⟨gb484, 1, none⟩) (Kd.V_far (p := ⟨gb484, 0, none⟩) (Kd.V_far (p := ⟨gb507, 3, none⟩) (Kd.V_far (p := ⟨gb507, 2, none⟩) (Kd.V_far (p := ⟨gb507, 1, none⟩) (Kd.V_far (p := ⟨gb507, 0, none⟩) (Kd.V_far (p := ⟨gb506, 3, none⟩) (Kd.V_far (p := ⟨gb506, 2, none⟩) (Kd.V_far (p := ⟨gb506, 1, none⟩) (Kd.V_far (p := ⟨gb506, 0, none⟩) (Kd.V_mono (Kd.V_mono (Kd.V_mono HO_485003.out (fun k_ hk => (⟨hk, hk.2.2.2.2.1⟩ : _ ∧ k_ ≠ gb506))) (fun k_ hk => (⟨hk, hk.1.2.2.2.2.2⟩ : _ ∧ k_ ≠ gb507))) (fun k_ hk => (⟨hk, hk.1.1.2.2.2.1⟩ : _ ∧ k_ ≠ gb484))) (fun _ hk => hk.1.1.2) (.int .i64 t494)) (fun _ hk => hk.1.1.2) (.int .i64 t495)) (fun _ hk => hk.1.1.2) (.slice Ao56 t496.length co56)) (fun _ hk => hk.1.1.2) (.slice Ao58 t499.length co58)) (fun _ hk => hk.1.2) (.bool t502)) (fun _ hk => hk.1.2) (.int .i64 t503)) (fun _ hk => hk.1.2) (.int .i64 t504)) (fun _ hk => hk.1.2) (.int .i64 t505)) (fun _ hk => hk.2) (.int .i64 t494)) (fun _ hk => hk.2) (.int .i64 t495)) (fun _ hk => hk.2) (.slice Ao56 t496.length co56)) (fun _ hk => hk.2) (.slice Ao58 t499.length co58)) (fun _ hk => ⟨hk.1.1.1.1, ⟨hk.1.1.1.2.1, ⟨hk.1.1.1.2.2.1, ⟨hk.1.1.1.2.2.2.1, ⟨hk.1.1.1.2.2.2.2.1, hk.1.1.1.2.2.2.2.2⟩⟩⟩⟩⟩)))⟩; replace HO498 : Aside0 (Kd.V (Kd.int .i64) 3 w71 w.heap.size (fun k_ => some k_ ≠ (u7 : Value).ownBlock ∧ some k_ ≠ (u8 : Value).ownBlock ∧ k_ ≠ gb481 ∧ k_ ≠ gb484 ∧ k_ ≠ gb506 ∧ k_ ≠ gb507) (.slice Ao56 t496.length co56) t496) := ⟨(by rw [hw]; exact (by (with_reducible repeat (first | apply Kd.V_alloc | apply Kd.V_drewN | apply Kd.V_drew)); exact Kd.V_mono (Kd.V_far (p := ⟨gb484, 3, none⟩) (Kd.V_far (p := ⟨gb484, 2, none⟩) (Kd.V_far (p := ⟨gb484, 1, none⟩) (Kd.V_far (p := ⟨gb484, 0, none⟩) (Kd.V_far (p := ⟨gb507, 3, none⟩) (Kd.V_far (p := ⟨gb507, 2, none⟩) (Kd.V_far (p := ⟨gb507, 1, none⟩) (Kd.V_far (p := ⟨gb507, 0, none⟩) (Kd.V_far (p := ⟨gb506, 3, none⟩) (Kd.V_far (p := ⟨gb506, 2, none⟩) (Kd.V_far (p := ⟨gb506, 1, none⟩) (Kd.V_far (p := ⟨gb506, 0, none⟩) (Kd.V_mono (Kd.V_mono (Kd.V_mono HO498.out (fun k_ hk => (⟨hk, hk.2.2.2.2.1⟩ : _ ∧ k_ ≠ gb506))) (fun k_ hk => (⟨hk, hk.1.2.2.2.2.2⟩ : _ ∧ k_ ≠ gb507))) (fun k_ hk => (⟨hk, hk.1.1.2.2.2.1⟩ : _ ∧ k_ ≠ gb484))) (fun _ hk => hk.1.1.2) (.int .i64 t494)) (fun _ hk => hk.1.1.2) (.int .i64 t495)) (fun _ hk => hk.1.1.2) (.slice Ao56 t496.length co56)) (fun _ hk => hk.1.1.2) (.slice Ao58 t499.length co58)) (fun _ hk => hk.1.2) (.bool t502)) (fun _ hk => hk.1.2) (.int .i64 t503)) (fun _ hk => hk.1.2) (.int .i64 t504)) (fun _ hk => hk.1.2) (.int .i64 t505)) (fun _ hk => hk.2) (.int .i64 t494)) (fun _ hk => hk.2) (.int .i64 t495)) (fun _ hk => hk.2) (.slice Ao56 t496.length co56)) (fun _ hk => hk.2) (.slice Ao58 t499.length co58)) (fun _ hk => ⟨hk.1.1.1.1, ⟨hk.1.1.1.2.1, ⟨hk.1.1.1.2.2.1, ⟨hk.1.1.1.2.2.2.1, ⟨hk.1.1.1.2.2.2.2.1, hk.1.1.1.2.2.2.2.2⟩⟩⟩⟩⟩)))⟩; replace HO501 : Aside0 (Kd.V k50 50 w71 w.heap.size (fun k_ => some k_ ≠ (u7 : Value).ownBlock ∧ some k_ ≠ (u8 : Value).ownBlock ∧ k_ ≠ gb481 ∧ k_ ≠ gb484 ∧ k_ ≠ gb506 ∧ k_ ≠ gb507) (.slice Ao58 t499.length co58) t499) := ⟨(by rw [hw]; exact (by (with_reducible repeat (first | apply Kd.V_alloc | apply Kd.V_drewN | apply Kd.V_drew)); exact Kd.V_mono (Kd.V_far (p := ⟨gb484, 3, none⟩) (Kd.V_far (p := ⟨gb484, 2, none⟩) (Kd.V_far (p := ⟨gb484, 1, none⟩) (Kd.V_far (p := ⟨gb484, 0, none⟩) (Kd.V_far (p := ⟨gb507, 3, none⟩) (Kd.V_far (p := ⟨gb507, 2, none⟩) (Kd.V_far (p := ⟨gb507, 1, none⟩) (Kd.V_far (p := ⟨gb507, 0, none⟩) (Kd.V_far (p := ⟨gb506, 3, none⟩) (Kd.V_far (p := ⟨gb506, 2, none⟩) (Kd.V_far (p := ⟨gb506, 1, none⟩) (Kd.V_far (p := ⟨gb506, 0, none⟩) (Kd.V_mono (Kd.V_mono (Kd.V_mono HO501.out (fun k_ hk => (⟨hk, hk.2.2.2.2.1⟩ : _ ∧ k_ ≠ gb506))) (fun k_ hk => (⟨hk, hk.1.2.2.2.2.2⟩ : _ ∧ k_ ≠ gb507))) (fun k_ hk => (⟨hk, hk.1.1.2.2.2.1⟩ : _ ∧ k_ ≠ gb484))) (fun _ hk => hk.1.1.2) (.int .i64 t494)) (fun _ hk => hk.1.1.2) (.int .i64 t495)) (fun _ hk => hk.1.1.2) (.slice Ao56 t496.length co56)) (fun _ hk => hk.1.1.2) (.slice Ao58 t499.length co58)) (fun _ hk => hk.1.2) (.bool t502)) (fun _ hk => hk.1.2) (.int .i64 t503)) (fun _ hk => hk.1.2) (.int .i64 t504)) (fun _ hk => hk.1.2) (.int .i64 t505)) (fun _ hk => hk.2) (.int .i64 t494)) (fun _ hk => hk.2) (.int .i64 t495)) (fun _ hk => hk.2) (.slice Ao56 t496.length co56)) (fun _ hk => hk.2) (.slice Ao58 t499.length co58)) (fun _ hk => ⟨hk.1.1.1.1, ⟨hk.1.1.1.2.1, ⟨hk.1.1.1.2.2.1, ⟨hk.1.1.1.2.2.2.1, ⟨hk.1.1.1.2.2.2.2.1, hk.1.1.1.2.2.2.2.2⟩⟩⟩⟩⟩)))⟩; replace BK481 : Aside0 (w71.heap[gb481]? = some (.cells #[.int .i64 a0_0, .int .i64 a0_1, .int .i64 a0_2, .int .i64 a0_3] 23 (0, 0))) := ⟨(by rw [hw]; exact (by (with_reducible repeat (first | refine blk_drewN ?_ _ | refine blk_drew ?_ | refine blk_alloc ?_ _)); refine blk_far ?_ NB481_484.out _; (with_reducible repeat (first | refine blk_drewN ?_ _ | refine blk_drew ?_ | refine blk_alloc ?_ _)); refine blk_far ?_ NB481_484.out _; (with_reducible repeat (first | refine blk_drewN ?_ _ | refine blk_drew ?_ | refine blk_alloc ?_ _)); refine blk_far ?_ NB481_484.out _; (with_reducible repeat (first | refine blk_drewN ?_ _ | refine blk_drew ?_ | refine blk_alloc ?_ _)); refine blk_far ?_ NB481_484.out _; (with_reducible repeat (first | refine blk_drewN ?_ _ | refine blk_drew ?_ | refine blk_alloc ?_ _)); refine blk_far ?_ NB481_507.out _; (with_reducible repeat (first | refine blk_drewN ?_ _ | refine blk_drew ?_ | refine blk_alloc ?_ _)); refine blk_far ?_ NB481_507.out _; (with_reducible repeat (first | refine blk_drewN ?_ _ | refine blk_drew ?_ | refine blk_alloc ?_ _)); refine blk_far ?_ NB481_507.out _; (with_reducible repeat (first | refine blk_drewN ?_ _ | refine blk_drew ?_ | refine blk_alloc ?_ _)); refine blk_far ?_ NB481_507.out _; (with_reducible repeat (first | refine blk_drewN ?_ _ | refine blk_drew ?_ | refine blk_alloc ?_ _)); refine blk_far ?_ NB481_506.out _; (with_reducible repeat (first | refine blk_drewN ?_ _ | refine blk_drew ?_ | refine blk_alloc ?_ _)); refine blk_far ?_ NB481_506.out _; (with_reducible repeat (first | refine blk_drewN ?_ _ | refine blk_drew ?_ | refine blk_alloc ?_ _)); refine blk_far ?_ NB481_506.out _; (with_reducible repeat (first | refine blk_drewN ?_ _ | refine blk_drew ?_ | refine blk_alloc ?_ _)); refine blk_far ?_ NB481_506.out _; (with_reducible repeat (first | refine blk_drewN ?_ _ | refine blk_drew ?_ | refine blk_alloc ?_ _)); exact BK481.out))⟩; replace BK484 : Aside0 (w71.heap[gb484]? = some (.cells #[.int .i64 t494, .int .i64 t495, .slice Ao56 t496.length co56, .slice Ao58 t499.length co58] 27 (0, 0))) := ⟨(by rw [hw]; exact (by (with_reducible repeat (first | refine blk_drewN ?_ _ | refine blk_drew ?_ | refine blk_alloc ?_ _)); refine blk_put (cs := #[.int .i64 t494, .int .i64 t495, .slice Ao56 t496.length co56, .slice Ao48 x485003_2.length co48]) ?_ 3 _ rfl; (with_reducible repeat (first | refine blk_drewN ?_ _ | refine blk_drew ?_ | refine blk_alloc ?_ _)); refine blk_put (cs := #[.int .i64 t494, .int .i64 t495, .slice Ao47 x485002_2.length co47, .slice Ao48 x485003_2.length co48]) ?_ 2 _ rfl; (with_reducible repeat (first | refine blk_drewN ?_ _ | refine blk_drew ?_ | refine blk_alloc ?_ _)); refine blk_put (cs := #[.int .i64 t494, .int .i64 x485001_2, .slice Ao47 x485002_2.length co47, .slice Ao48 x485003_2.length co48]) ?_ 1 _ rfl; (with_reducible repeat (first | refine blk_drewN ?_ _ | refine blk_drew ?_ | refine blk_alloc ?_ _)); refine blk_put (cs := #[.int .i64 x485000_2, .int .i64 x485001_2, .slice Ao47 x485002_2.length co47, .slice Ao48 x485003_2.length co48]) ?_ 0 _ rfl; (with_reducible repeat (first | refine blk_drewN ?_ _ | refine blk_drew ?_ | refine blk_alloc ?_ _)); refine blk_far ?_ NB484_507.out _; (with_reducible repeat (first | refine blk_drewN ?_ _ | refine blk_drew ?_ | refine blk_alloc ?_ _)); refine blk_far ?_ NB484_507.out _; (with_reducible repeat (first | refine blk_drewN ?_ _ | refine blk_drew ?_ | refine blk_alloc ?_ _)); refine blk_far ?_ NB484_507.out _; (with_reducible repeat (first | refine blk_drewN ?_ _ | refine blk_drew ?_ | refine blk_alloc ?_ _)); refine blk_far ?_ NB484_507.out _; (with_reducible repeat (first | refine blk_drewN ?_ _ | refine blk_drew ?_ | refine blk_alloc ?_ _)); refine blk_far ?_ NB484_506.out _; (with_reducible repeat (first | refine blk_drewN ?_ _ | refine blk_drew ?_ | refine blk_alloc ?_ _)); refine blk_far ?_ NB484_506.out _; (with_reducible repeat (first | refine blk_drewN ?_ _ | refine blk_drew ?_ | refine blk_alloc ?_ _)); refine blk_far ?_ NB484_506.out _; (with_reducible repeat (first | refine blk_drewN ?_ _ | refine blk_drew ?_ | refine blk_alloc ?_ _)); refine blk_far ?_ NB484_506.out _; (with_reducible repeat (first | refine blk_drewN ?_ _ | refine blk_drew ?_ | refine blk_alloc ?_ _)); exact BK484.out))⟩; replace BK506 : Aside0 (w71.heap[gb506]? = some (.cells #[.int .i64 t494, .int .i64 t495, .slice Ao56 t496.length co56, .slice Ao58 t499.length co58] 27 (0, 0))) := ⟨(by rw [hw]; exact (by (with_reducible repeat (first | refine blk_drewN ?_ _ | refine blk_drew ?_ | refine blk_alloc ?_ _)); refine blk_far ?_ NB506_484.out _; (with_reducible repeat (first | refine blk_drewN ?_ _ | refine blk_drew ?_ | refine blk_alloc ?_ _)); refine blk_far ?_ NB506_484.out _; (with_reducible repeat (first | refine blk_drewN ?_ _ | refine blk_drew ?_ | refine blk_alloc ?_ _)); refine blk_far ?_ NB506_484.out _; (with_reducible repeat (first | refine blk_drewN ?_ _ | refine blk_drew ?_ | refine blk_alloc ?_ _)); refine blk_far ?_ NB506_484.out _; (with_reducible repeat (first | refine blk_drewN ?_ _ | refine blk_drew ?_ | refine blk_alloc ?_ _)); refine blk_far ?_ NB506_507.out _; (with_reducible repeat (first | refine blk_drewN ?_ _ | refine blk_drew ?_ | refine blk_alloc ?_ _)); refine blk_far ?_ NB506_507.out _; (with_reducible repeat (first | refine blk_drewN ?_ _ | refine blk_drew ?_ | refine blk_alloc ?_ _)); refine blk_far ?_ NB506_507.out _; (with_reducible repeat (first | refine blk_drewN ?_ _ | refine blk_drew ?_ | refine blk_alloc ?_ _)); refine blk_far ?_ NB506_507.out _; (with_reducible repeat (first | refine blk_drewN ?_ _ | refine blk_drew ?_ | refine blk_alloc ?_ _)); refine blk_put (cs := #[.int .i64 t494, .int .i64 t495, .slice Ao56 t496.length co56, .slice none 0 0]) ?_ 3 _ rfl; (with_reducible repeat (first | refine blk_drewN ?_ _ | refine blk_drew ?_ | refine blk_alloc ?_ _)); refine blk_put (cs := #[.int .i64 t494, .int .i64 t495, .slice none 0 0, .slice none 0 0]) ?_ 2 _ rfl; (with_reducible repeat (first | refine blk_drewN ?_ _ | refine blk_drew ?_ | refine blk_alloc ?_ _)); refine blk_put (cs := #[.int .i64 t494, .int .i64 0, .slice none 0 0, .slice none 0 0]) ?_ 1 _ rfl; (with_reducible repeat (first | refine blk_drewN ?_ _ | refine blk_drew ?_ | refine blk_alloc ?_ _)); refine blk_put (cs := #[.int .i64 0, .int .i64 0, .slice none 0 0, .slice none 0 0]) ?_ 0 _ rfl; (with_reducible repeat (first | refine blk_drewN ?_ _ | refine blk_drew ?_ | refine blk_alloc ?_ _)); exact BK506.out))⟩; replace BK507 : Aside0 (w71.heap[gb507]? = some (.cells #[.bool t502, .int .i64 t503, .int .i64 t504, .int .i64 t505] 32 (0, 0))) := ⟨(by rw [hw]; exact (by (with_reducible repeat (first | refine blk_drewN ?_ _ | refine blk_drew ?_ | refine blk_alloc ?_ _)); refine blk_far ?_ NB507_484.out _; (with_reducible repeat (first | refine blk_drewN ?_ _ | refine blk_drew ?_ | refine blk_alloc ?_ _)); refine blk_far ?_ NB507_484.out _; (with_reducible repeat (first | refine blk_drewN ?_ _ | refine blk_drew ?_ | refine blk_alloc ?_ _)); refine blk_far ?_ NB507_484.out _; (with_reducible repeat (first | refine blk_drewN ?_ _ | refine blk_drew ?_ | refine blk_alloc ?_ _)); refine blk_far ?_ NB507_484.out _; (with_reducible repeat (first | refine blk_drewN ?_ _ | refine blk_drew ?_ | refine blk_alloc ?_ _)); refine blk_put (cs := #[.bool t502, .int .i64 t503, .int .i64 t504, .int .i64 0]) ?_ 3 _ rfl; (with_reducible repeat (first | refine blk_drewN ?_ _ | refine blk_drew ?_ | refine blk_alloc ?_ _)); refine blk_put (cs := #[.bool t502, .int .i64 t503, .int .i64 0, .int .i64 0]) ?_ 2 _ rfl; (with_reducible repeat (first | refine blk_drewN ?_ _ | refine blk_drew ?_ | refine blk_alloc ?_ _)); refine blk_put (cs := #[.bool t502, .int .i64 0, .int .i64 0, .int .i64 0]) ?_ 1 _ rfl; (with_reducible repeat (first | refine blk_drewN ?_ _ | refine blk_drew ?_ | refine blk_alloc ?_ _)); refine blk_put (cs := #[.bool false, .int .i64 0, .int .i64 0, .int .i64 0]) ?_ 0 _ rfl; (with_reducible repeat (first | refine blk_drewN ?_ _ | refine blk_drew ?_ | refine blk_alloc ?_ _)); refine blk_far ?_ NB507_506.out _; (with_reducible repeat (first | refine blk_drewN ?_ _ | refine blk_drew ?_ | refine blk_alloc ?_ _)); refine blk_far ?_ NB507_506.out _; (with_reducible repeat (first | refine blk_drewN ?_ _ | refine blk_drew ?_ | refine blk_alloc ?_ _)); refine blk_far ?_ NB507_506.out _; (with_reducible repeat (first | refine blk_drewN ?_ _ | refine blk_drew ?_ | refine blk_alloc ?_ _)); refine blk_far ?_ NB507_506.out _; (with_reducible repeat (first | refine blk_drewN ?_ _ | refine blk_drew ?_ | refine blk_alloc ?_ _)); exact BK507.out))⟩; replace HB : Aside0 (Below w.heap.size w w71) := ⟨(by rw [hw]; exact (bl HB))⟩; clear hw) | ((with_reducible refine gate_builtin (b := .append) (xs := #[.tmp 99, .tmp 101]) rfl ?_); (try (refine gate_guard (by rfl) ?_; dsimp only)); at_builtin; refine Kd.R_append (Kd.int .i64) (w0 := w) w.heap.size rfl (.tmp 99) (.tmp 101) 24 3 (.int .i64 0) 8 rfl Try.underlying24 info3 rfl (by decide) (by omega) u7 x7_2 (wrap64 (x6_2 + ((rd_T45 l1 x9_2).f0))) [.int .i64 (wrap64 (x6_2 + ((rd_T45 l1 x9_2).f0)))] (fun k_ => some k_ ≠ (u8 : Value).ownBlock) (fun _ => False) rfl rfl ?aP (fun _ hk => hk.elim) ?aF ?aO ?aB ?aS ?aL ?_; (case aP => exact rfl); (case aB => exact (bl HB)); (case aF => exact (fun k_ hk => Kd.fresh' (Kd.R_lt (by (with_reducible repeat (first | apply Kd.R_alloc | apply Kd.R_drewN | apply Kd.R_drew)); exact HO_8.out)) k_ hk)); (case aO => exact (by (with_reducible repeat (first | apply Kd.R_alloc | apply Kd.R_drewN | apply Kd.R_drew)); exact HO_7.out)); (case aS => exact (below_size (bl HB))); (case aL => have := LMc44.out; omega); intro v509 w72 ho hb hg hat; rw [← Ny508.out] at ho; have HO510 := Aside0.mk (ho); replace HO_8 := Aside0.mk (Kd.R_after (ok := (fun _ => True)) (by (with_reducible repeat (first | apply Kd.R_alloc | apply Kd.R_drewN | apply Kd.R_drew)); exact Kd.R_mono HO_8.out (fun _ hk => ⟨trivial, hk⟩)) hg hat); replace HO_485002 := Aside0.mk (Kd.V_afterv (ok := (fun k_ => some k_ ≠ (u8 : Value).ownBlock ∧ k_ ≠ gb481 ∧ k_ ≠ gb484 ∧ k_ ≠ gb506 ∧ k_ ≠ gb507)) (by (with_reducible repeat (first | apply Kd.V_alloc | apply Kd.V_drewN | apply Kd.V_drew)); exact Kd.V_mono HO_485002.out (fun _ hk => ⟨⟨hk.2.1, ⟨hk.2.2.1, ⟨hk.2.2.2.1, ⟨hk.2.2.2.2.1, hk.2.2.2.2.2⟩⟩⟩⟩, hk.1⟩)) hg hat); replace HO_485003 := Aside0.mk (Kd.V_afterv (ok := (fun k_ => some k_ ≠ (u8 : Value).ownBlock ∧ k_ ≠ gb481 ∧ k_ ≠ gb484 ∧ k_ ≠ gb506 ∧ k_ ≠ gb507)) (by (with_reducible repeat (first | apply Kd.V_alloc | apply Kd.V_drewN | apply Kd.V_drew)); exact Kd.V_mono HO_485003.out (fun _ hk => ⟨⟨hk.2.1, ⟨hk.2.2.1, ⟨hk.2.2.2.1, ⟨hk.2.2.2.2.1, hk.2.2.2.2.2⟩⟩⟩⟩, hk.1⟩)) hg hat); replace BK481 := Aside0.mk (blk_grown (g := gb481) (o := .cells #[.int .i64 a0_0, .int .i64 a0_1, .int .i64 a0_2, .int .i64 a0_3] 23 (0, 0)) (bo BK481) hg (Kd.R_ne HO_7.out BK481.out (by decide))); replace BK484 := Aside0.mk (blk_grown (g := gb484) (o := .cells #[.int .i64 t494, .int .i64 t495, .slice Ao56 t496.length co56, .slice Ao58 t499.length co58] 27 (0, 0)) (bo BK484) hg (Kd.R_ne HO_7.out BK484.out (by decide))); replace HO498 := Aside0.mk (Kd.V_afterv (ok := (fun k_ => some k_ ≠ (u8 : Value).ownBlock ∧ k_ ≠ gb481 ∧ k_ ≠ gb484 ∧ k_ ≠ gb506 ∧ k_ ≠ gb507)) (by (with_reducible repeat (first | apply Kd.V_alloc | apply Kd.V_drewN | apply Kd.V_drew)); exact Kd.V_mono HO498.out (fun _ hk => ⟨⟨hk.2.1, ⟨hk.2.2.1, ⟨hk.2.2.2.1, ⟨hk.2.2.2.2.1, hk.2.2.2.2.2⟩⟩⟩⟩, hk.1⟩)) hg hat); replace HO501 := Aside0.mk (Kd.V_afterv (ok := (fun k_ => some k_ ≠ (u8 : Value).ownBlock ∧ k_ ≠ gb481 ∧ k_ ≠ gb484 ∧ k_ ≠ gb506 ∧ k_ ≠ gb507)) (by (with_reducible repeat (first | apply Kd.V_alloc | apply Kd.V_drewN | apply Kd.V_drew)); exact Kd.V_mono HO501.out (fun _ hk => ⟨⟨hk.2.1, ⟨hk.2.2.1, ⟨hk.2.2.2.1, ⟨hk.2.2.2.2.1, hk.2.2.2.2.2⟩⟩⟩⟩, hk.1⟩)) hg hat); replace BK506 := Aside0.mk (blk_grown (g := gb506) (o := .cells #[.int .i64 t494, .int .i64 t495, .slice Ao56 t496.length co56, .slice Ao58 t499.length co58] 27 (0, 0)) (bo BK506) hg (Kd.R_ne HO_7.out BK506.out (by decide))); replace BK507 := Aside0.mk (blk_grown (g := gb507) (o := .cells #[.bool t502, .int .i64 t503, .int .i64 t504, .int .i64 t505] 32 (0, 0)) (bo BK507) hg (Kd.R_ne HO_7.out BK507.out (by decide))); replace HB := Aside0.mk (hb); clear HO_7; clear ho hb hg hat))
                   replace HO_8 := Aside0.mk (Kd.R_drew HO_8.out)
                   replace HO_485002 := Aside0.mk (Kd.V_drew HO_485002.out)
                   replace HO_485003 := Aside0.mk (Kd.V_drew HO_485003.out)
                   replace HO498 := Aside0.mk (Kd.V_drew HO498.out)
                   replace HO501 := Aside0.mk (Kd.V_drew HO501.out)
                   replace HO510 := Aside0.mk (Kd.R_drew HO510.out)
                   replace BK481 := Aside0.mk (blk_drew BK481.out)
                   replace BK484 := Aside0.mk (blk_drew BK484.out)
                   replace BK506 := Aside0.mk (blk_drew BK506.out)
                   replace BK507 := Aside0.mk (blk_drew BK507.out)
                   replace HB := Aside0.mk (below_drew1 HB.out)
                   have p511 : 0 ≤ (x9_2 : Int) := of_decide_eq_true (by first | (with_reducible assumption) | assumption)
                   have q511 : x9_2 < (l1.length : Int) := of_decide_eq_true (by first | (with_reducible assumption) | assumption)
                   obtain ⟨ad511, e511, hx511_0, hx511_1⟩ := at_T45 HR1.out x9_2 p511 q511
                   have hw511_1 := hx511_1
                   have hw511_0 := hx511_0
                   obtain rfl : ad490 = ad511 := (by injection e511)
                   replace hx511_0 := (HB.out.cell (World.block_lt_of_cell? w _ hx511_0)).trans hx511_0
                   replace hx511_1 := (HB.out.cell (World.block_lt_of_cell? w _ hx511_1)).trans hx511_1
                   replace p511 := eq_true p511
                   replace q511 := eq_true q511
                   refine start_ (n := 13) (S := fun w' => w'.cell? ⟨gb507, 0, none⟩ = some (.bool t502) ∧ w'.cell? ⟨gb507, 1, none⟩ = some (.int .i64 t503) ∧ w'.cell? ⟨gb507, 2, none⟩ = some (.int .i64 t504) ∧ w'.cell? ⟨gb507, 3, none⟩ = some (.int .i64 t505) ∧ w'.cell? ⟨gb481, 0, none⟩ = some (.int .i64 a0_0) ∧ w'.cell? ⟨gb481, 1, none⟩ = some (.int .i64 a0_1) ∧ w'.cell? ⟨gb481, 2, none⟩ = some (.int .i64 a0_2) ∧ w'.cell? ⟨gb481, 3, none⟩ = some (.int .i64 a0_3) ∧ w'.cell? (ad490.add ((x9_2).toNat * 2)) = some (.int .i64 ((rd_T45 l1 x9_2).f0)) ∧ w'.cell? ⟨(ad490.add ((x9_2).toNat * 2)).block, (ad490.add ((x9_2).toNat * 2)).off + 1, none⟩ = some (.int .i64 ((rd_T45 l1 x9_2).f1))) (ds := []) #[false, false, false, false, false, false, false, false, false, false, false, false, false] (by kernel_rfl) rfl rfl ⟨(blk_cell BK507.out 0).trans rfl, (blk_cell BK507.out 1).trans rfl, (blk_cell BK507.out 2).trans rfl, (blk_cell BK507.out 3).trans rfl, (blk_cell BK481.out 0).trans rfl, (blk_cell BK481.out 1).trans rfl, (blk_cell BK481.out 2).trans rfl, (blk_cell BK481.out 3).trans rfl, ((HB.out.cell (World.block_lt_of_cell? w _ hw511_0)).trans hw511_0), ((HB.out.cell (World.block_lt_of_cell? w _ hw511_1)).trans hw511_1)⟩ (fun hHeld => ?_); refine with_tabW sandglasslaw13_ExactRate.tab22 sandglasslaw13_ExactRate.bits22 (fun HT_ HW_ => ?_)
                   generalize w72.drew = w73 at HO_8 HO_485002 HO_485003 HO498 HO501 HO510 BK481 BK484 BK506 BK507 HB hx511_0 hx511_1 hHeld ⊢
                   refine pureA 0 103 HT_ ?_
                   refine pureA 2 105 HT_ ?_
                   refine pureA 3 106 HT_ ?_
                   refine pureA 4 107 HT_ ?_
                   refine pureA 5 108 HT_ ?_
                   refine pureA 6 109 HT_ ?_
                   refine pureA 9 112 HT_ ?_
                   refine takeA 1 104 HT_ HW_ hHeld ?_
                   refine takeA 7 110 HT_ HW_ hHeld ?_
                   refine pureA 8 111 HT_ ?_
                   refine takeA 10 113 HT_ HW_ hHeld ?_
                   refine pureA 11 114 HT_ ?_
                   refine pureA 12 115 HT_ ?_
                   refine done_ (done_of HT_.out (by kernel_rfl)) ?_
                   have hnb74 := NB507_481.out
                   have hnc74 := NB481_507.out
                   obtain ⟨hcz75_0, hcz75_1, hcz75_2, hcz75_3⟩ := ce4 BK507
                   obtain ⟨hfz75_0, hfz75_1, hfz75_2, hfz75_3⟩ := fr4 BK507
                   go_upto_if 117 with (fail)
                   go_cut [8, 10] (fun v8 v10 wc => ∃ (kq : Nat) (x8_45 : List Int) (x10_45 : Int), v10 = .int .i64 x10_45 ∧ Aside0 (sandglasslaw13_ExactRate.j4 kq l1 (wrap64 (x6_2 + ((rd_T45 l1 x9_2).f0))) y508 x8_45 x9_2 x10_45 a0_0 a0_1 a0_2 a0_3 t494 t495 t496 t499 t502 t503 t504 t505 = some r) ∧ Aside0 (kq ≤ k4) ∧ Aside0 (Kd.R (Kd.int .i64) 3 wc w.heap.size (fun k_ => some k_ ≠ (v8 : Value).ownBlock) v509 y508) ∧ Aside0 (Kd.R (Kd.int .i64) 3 wc w.heap.size (fun k_ => some k_ ≠ (v509 : Value).ownBlock) v8 x8_45) ∧ Aside0 (Kd.V (Kd.int .i64) 3 wc w.heap.size (fun k_ => some k_ ≠ (v509 : Value).ownBlock ∧ some k_ ≠ (v8 : Value).ownBlock ∧ k_ ≠ gb481 ∧ k_ ≠ gb484 ∧ k_ ≠ gb506 ∧ k_ ≠ gb507) (.slice Ao56 t496.length co56) t496) ∧ Aside0 (Kd.V k50 50 wc w.heap.size (fun k_ => some k_ ≠ (v509 : Value).ownBlock ∧ some k_ ≠ (v8 : Value).ownBlock ∧ k_ ≠ gb481 ∧ k_ ≠ gb484 ∧ k_ ≠ gb506 ∧ k_ ≠ gb507) (.slice Ao58 t499.length co58) t499) ∧ Aside0 (Kd.V (Kd.int .i64) 3 wc w.heap.size (fun k_ => some k_ ≠ (v509 : Value).ownBlock ∧ some k_ ≠ (v8 : Value).ownBlock ∧ k_ ≠ gb481 ∧ k_ ≠ gb484 ∧ k_ ≠ gb506 ∧ k_ ≠ gb507) (.slice Ao56 t496.length co56) t496) ∧ Aside0 (Kd.V k50 50 wc w.heap.size (fun k_ => some k_ ≠ (v509 : Value).ownBlock ∧ some k_ ≠ (v8 : Value).ownBlock ∧ k_ ≠ gb481 ∧ k_ ≠ gb484 ∧ k_ ≠ gb506 ∧ k_ ≠ gb507) (.slice Ao58 t499.length co58) t499) ∧ Aside0 (wc.heap[gb481]? = some (.cells #[.int .i64 a0_0, .int .i64 a0_1, .int .i64 a0_2, .int .i64 a0_3] 23 (0, 0))) ∧ Aside0 (wc.heap[gb484]? = some (.cells #[.int .i64 t494, .int .i64 t495, (.slice Ao56 t496.length co56), (.slice Ao58 t499.length co58)] 27 (0, 0))) ∧ Aside0 (wc.heap[gb506]? = some (.cells #[.int .i64 t494, .int .i64 t495, (.slice Ao56 t496.length co56), (.slice Ao58 t499.length co58)] 27 (0, 0))) ∧ Aside0 (wc.heap[gb507]? = some (.cells #[.bool t502, .int .i64 t503, .int .i64 t504, .int .i64 t505] 32 (0, 0))) ∧ Aside0 (Below w.heap.size w wc))
                   case first =>
                    have H := HC46.out
                    clear HC46
                    by_cases c76 : t502 = true
                    ·subst c76
                     rw [if_pos rfl] at H
                     by_cases c77 : x8_2.length < 17592186044416
                     ·rw [if_pos c77] at H
                      have LMc77 := Aside0.mk c77
                      clear c77
                      obtain ⟨y513, hy513⟩ : ∃ y_ : List Int, y_ = (x8_2 ++ [(rd_T45 l1 x9_2).f1]) := ⟨_, rfl⟩
                      replace H : (sandglasslaw13_ExactRate.j4 k4 l1 (wrap64 (x6_2 + ((rd_T45 l1 x9_2).f0))) y508 y513 x9_2 (wrap64 (x10_4 + ((rd_T45 l1 x9_2).f1))) a0_0 a0_1 a0_2 a0_3 t494 t495 t496 t499 true t503 t504 t505) = some r := by first | (rw [hy513]; with_reducible exact H) | (have H2_ := (Option.bind_some _ _).symm.trans H; rw [hy513]; with_reducible exact H2_) | (have H2_ := (Option.bind_some _ _).symm.trans H; with_reducible exact H2_) | with_reducible exact H | (rw [hy513]; exact H) | exact H
                      have Ny513 := Aside0.mk hy513
                      clear hy513
                      have H' := Aside0.mk H
                      clear H
                      have p512 : 0 ≤ (x9_2 : Int) := of_decide_eq_true (by first | (with_reducible assumption) | assumption)
                      have q512 : x9_2 < (l1.length : Int) := of_decide_eq_true (by first | (with_reducible assumption) | assumption)
                      obtain ⟨ad512, e512, hx512_0, hx512_1⟩ := at_T45 HR1.out x9_2 p512 q512
                      obtain rfl : ad490 = ad512 := (by injection e512)
                      replace hx512_0 := (HB.out.cell (World.block_lt_of_cell? w _ hx512_0)).trans hx512_0
                      replace hx512_1 := (HB.out.cell (World.block_lt_of_cell? w _ hx512_1)).trans hx512_1
                      replace p512 := eq_true p512
                      replace q512 := eq_true q512
                      go_wp2_with (first | ((with_reducible refine gate_builtin (b := .append) (xs := #[.tmp 118, .tmp 124]) rfl ?_); (try (refine gate_guard (by rfl) ?_; dsimp only)); at_builtin; refine Kd.R_append (Kd.int .i64) (w0 := w) w.heap.size rfl (.tmp 118) (.tmp 124) 24 3 (.int .i64 0) 8 rfl Try.underlying24 info3 rfl (by decide) (by omega) u8 x8_2 ((rd_T45 l1 x9_2).f1) [.int .i64 ((rd_T45 l1 x9_2).f1)] (fun k_ => some k_ ≠ (v509 : Value).ownBlock) (fun _ => False) rfl rfl ?aP (fun _ hk => hk.elim) ?aF ?aO ?aB ?aS ?aL ?_; (case aP => exact rfl); (case aB => exact (bl HB)); (case aF => exact (fun k_ hk => Kd.fresh' (Kd.R_lt (by (with_reducible repeat (first | apply Kd.R_alloc | apply Kd.R_drewN | apply Kd.R_drew)); exact HO510.out)) k_ hk)); (case aO => exact (by (with_reducible repeat (first | apply Kd.R_alloc | apply Kd.R_drewN | apply Kd.R_drew)); exact Kd.R_mono HO_8.out (fun _ hk => hk.2))); (case aS => exact (below_size (bl HB))); (case aL => have := LMc77.out; omega); intro v514 w78 ho hb hg hat; rw [← Ny513.out] at ho; have HO515 := Aside0.mk (ho); replace HO_485002 := Aside0.mk (Kd.V_afterv (ok := (fun k_ => some k_ ≠ (v509 : Value).ownBlock ∧ k_ ≠ gb481 ∧ k_ ≠ gb484 ∧ k_ ≠ gb506 ∧ k_ ≠ gb507)) (by (with_reducible repeat (first | apply Kd.V_alloc | apply Kd.V_drewN | apply Kd.V_drew)); exact Kd.V_mono HO_485002.out (fun _ hk => ⟨⟨hk.2, ⟨hk.1.2.1, ⟨hk.1.2.2.1, ⟨hk.1.2.2.2.1, hk.1.2.2.2.2⟩⟩⟩⟩, hk.1.1⟩)) hg hat); replace HO_485003 := Aside0.mk (Kd.V_afterv (ok := (fun k_ => some k_ ≠ (v509 : Value).ownBlock ∧ k_ ≠ gb481 ∧ k_ ≠ gb484 ∧ k_ ≠ gb506 ∧ k_ ≠ gb507)) (by (with_reducible repeat (first | apply Kd.V_alloc | apply Kd.V_drewN | apply Kd.V_drew)); exact Kd.V_mono HO_485003.out (fun _ hk => ⟨⟨hk.2, ⟨hk.1.2.1, ⟨hk.1.2.2.1, ⟨hk.1.2.2.2.1, hk.1.2.2.2.2⟩⟩⟩⟩, hk.1.1⟩)) hg hat); replace BK481 := Aside0.mk (blk_grown (g := gb481) (o := .cells #[.int .i64 a0_0, .int .i64 a0_1, .int .i64 a0_2, .int .i64 a0_3] 23 (0, 0)) (bo BK481) hg (Kd.R_ne HO_8.out BK481.out (by decide))); replace BK484 := Aside0.mk (blk_grown (g := gb484) (o := .cells #[.int .i64 t494, .int .i64 t495, .slice Ao56 t496.length co56, .slice Ao58 t499.length co58] 27 (0, 0)) (bo BK484) hg (Kd.R_ne HO_8.out BK484.out (by decide))); replace HO498 := Aside0.mk (Kd.V_afterv (ok := (fun k_ => some k_ ≠ (v509 : Value).ownBlock ∧ k_ ≠ gb481 ∧ k_ ≠ gb484 ∧ k_ ≠ gb506 ∧ k_ ≠ gb507)) (by (with_reducible repeat (first | apply Kd.V_alloc | apply Kd.V_drewN | apply Kd.V_drew)); exact Kd.V_mono HO498.out (fun _ hk => ⟨⟨hk.2, ⟨hk.1.2.1, ⟨hk.1.2.2.1, ⟨hk.1.2.2.2.1, hk.1.2.2.2.2⟩⟩⟩⟩, hk.1.1⟩)) hg hat); replace HO501 := Aside0.mk (Kd.V_afterv (ok := (fun k_ => some k_ ≠ (v509 : Value).ownBlock ∧ k_ ≠ gb481 ∧ k_ ≠ gb484 ∧ k_ ≠ gb506 ∧ k_ ≠ gb507)) (by (with_reducible repeat (first | apply Kd.V_alloc | apply Kd.V_drewN | apply Kd.V_drew)); exact Kd.V_mono HO501.out (fun _ hk => ⟨⟨hk.2, ⟨hk.1.2.1, ⟨hk.1.2.2.1, ⟨hk.1.2.2.2.1, hk.1.2.2.2.2⟩⟩⟩⟩, hk.1.1⟩)) hg hat); replace BK506 := Aside0.mk (blk_grown (g := gb506) (o := .cells #[.int .i64 t494, .int .i64 t495, .slice Ao56 t496.length co56, .slice Ao58 t499.length co58] 27 (0, 0)) (bo BK506) hg (Kd.R_ne HO_8.out BK506.out (by decide))); replace BK507 := Aside0.mk (blk_grown (g := gb507) (o := .cells #[.bool true, .int .i64 t503, .int .i64 t504, .int .i64 t505] 32 (0, 0)) (bo BK507) hg (Kd.R_ne HO_8.out BK507.out (by decide))); replace HO510 := Aside0.mk (Kd.R_after (ok := (fun _ => True)) (by (with_reducible repeat (first | apply Kd.R_alloc | apply Kd.R_drewN | apply Kd.R_drew)); exact Kd.R_mono HO510.out (fun _ hk => ⟨trivial, hk⟩)) hg hat); replace HB := Aside0.mk (hb); clear HO_8; clear ho hb hg hat; have p516 : 0 ≤ (x9_2 : Int) := of_decide_eq_true (by first | (with_reducible assumption) | assumption); have q516 : x9_2 < (l1.length : Int) := of_decide_eq_true (by first | (with_reducible assumption) | assumption); obtain ⟨ad516, e516, hx516_0, hx516_1⟩ := at_T45 HR1.out x9_2 p516 q516; obtain rfl : ad490 = ad516 := (by injection e516); replace hx516_0 := (HB.out.cell (World.block_lt_of_cell? w _ hx516_0)).trans hx516_0; replace hx516_1 := (HB.out.cell (World.block_lt_of_cell? w _ hx516_1)).trans hx516_1; replace p516 := eq_true p516; replace q516 := eq_true q516))
                      go_meet
                      case rel => exact ⟨_, (y513), (wrap64 (x10_4 + ((rd_T45 l1 x9_2).f1))), (by first | (with_reducible rfl) | rfl | (simp; done) | (simp [*]; done)), H', ⟨by have := HJ2.out; have := HK2.out; have := HJ20.out; have := HK4.out; first | omega | exact Nat.le_refl _⟩, ⟨by (with_reducible repeat (first | apply Kd.R_alloc | apply Kd.R_drewN | apply Kd.R_drew)); exact Kd.R_mono HO510.out (fun _ hk => hk.2)⟩, ⟨by (with_reducible repeat (first | apply Kd.R_alloc | apply Kd.R_drewN | apply Kd.R_drew)); exact HO515.out⟩, ⟨by (with_reducible repeat (first | apply Kd.V_alloc | apply Kd.V_drewN | apply Kd.V_drew)); exact Kd.V_mono HO498.out (fun _ hk => ⟨hk.1.1, ⟨hk.2, ⟨hk.1.2.1, ⟨hk.1.2.2.1, ⟨hk.1.2.2.2.1, hk.1.2.2.2.2⟩⟩⟩⟩⟩)⟩, ⟨by (with_reducible repeat (first | apply Kd.V_alloc | apply Kd.V_drewN | apply Kd.V_drew)); exact Kd.V_mono HO501.out (fun _ hk => ⟨hk.1.1, ⟨hk.2, ⟨hk.1.2.1, ⟨hk.1.2.2.1, ⟨hk.1.2.2.2.1, hk.1.2.2.2.2⟩⟩⟩⟩⟩)⟩, ⟨by (with_reducible repeat (first | apply Kd.V_alloc | apply Kd.V_drewN | apply Kd.V_drew)); exact Kd.V_mono HO498.out (fun _ hk => ⟨hk.1.1, ⟨hk.2, ⟨hk.1.2.1, ⟨hk.1.2.2.1, ⟨hk.1.2.2.2.1, hk.1.2.2.2.2⟩⟩⟩⟩⟩)⟩, ⟨by (with_reducible repeat (first | apply Kd.V_alloc | apply Kd.V_drewN | apply Kd.V_drew)); exact Kd.V_mono HO501.out (fun _ hk => ⟨hk.1.1, ⟨hk.2, ⟨hk.1.2.1, ⟨hk.1.2.2.1, ⟨hk.1.2.2.2.1, hk.1.2.2.2.2⟩⟩⟩⟩⟩)⟩, ⟨bo BK481⟩, ⟨bo BK484⟩, ⟨bo BK506⟩, ⟨bo BK507⟩, ⟨bl HB⟩⟩
                     ·rw [if_neg c77] at H
                      exact absurd H (by simp)
                    ·replace c76 := Bool.eq_false_iff.mpr c76
                     subst c76
                     rw [if_neg (show ¬ (false = true) by decide)] at H
                     by_cases c79 : x8_2.length < 17592186044416
                     ·rw [if_pos c79] at H
                      have LMc79 := Aside0.mk c79
                      clear c79
                      obtain ⟨y517, hy517⟩ : ∃ y_ : List Int, y_ = (x8_2 ++ [0]) := ⟨_, rfl⟩
                      replace H : (sandglasslaw13_ExactRate.j4 k4 l1 (wrap64 (x6_2 + ((rd_T45 l1 x9_2).f0))) y508 y517 x9_2 x10_4 a0_0 a0_1 a0_2 a0_3 t494 t495 t496 t499 false t503 t504 t505) = some r := by first | (rw [hy517]; with_reducible exact H) | (have H2_ := (Option.bind_some _ _).symm.trans H; rw [hy517]; with_reducible exact H2_) | (have H2_ := (Option.bind_some _ _).symm.trans H; with_reducible exact H2_) | with_reducible exact H | (rw [hy517]; exact H) | exact H
                      have Ny517 := Aside0.mk hy517
                      clear hy517
                      have H' := Aside0.mk H
                      clear H
                      go_wp2_with (first | ((with_reducible refine gate_builtin (b := .append) (xs := #[.tmp 133, .tmp 134]) rfl ?_); (try (refine gate_guard (by rfl) ?_; dsimp only)); at_builtin; refine Kd.R_append (Kd.int .i64) (w0 := w) w.heap.size rfl (.tmp 133) (.tmp 134) 24 3 (.int .i64 0) 8 rfl Try.underlying24 info3 rfl (by decide) (by omega) u8 x8_2 0 [.int .i64 0] (fun k_ => some k_ ≠ (v509 : Value).ownBlock) (fun _ => False) rfl rfl ?aP (fun _ hk => hk.elim) ?aF ?aO ?aB ?aS ?aL ?_; (case aP => exact rfl); (case aB => exact (bl HB)); (case aF => exact (fun k_ hk => Kd.fresh' (Kd.R_lt (by (with_reducible repeat (first | apply Kd.R_alloc | apply Kd.R_drewN | apply Kd.R_drew)); exact HO510.out)) k_ hk)); (case aO => exact (by (with_reducible repeat (first | apply Kd.R_alloc | apply Kd.R_drewN | apply Kd.R_drew)); exact Kd.R_mono HO_8.out (fun _ hk => hk.2))); (case aS => exact (below_size (bl HB))); (case aL => have := LMc79.out; omega); intro v518 w80 ho hb hg hat; rw [← Ny517.out] at ho; have HO519 := Aside0.mk (ho); replace HO_485002 := Aside0.mk (Kd.V_afterv (ok := (fun k_ => some k_ ≠ (v509 : Value).ownBlock ∧ k_ ≠ gb481 ∧ k_ ≠ gb484 ∧ k_ ≠ gb506 ∧ k_ ≠ gb507)) (by (with_reducible repeat (first | apply Kd.V_alloc | apply Kd.V_drewN | apply Kd.V_drew)); exact Kd.V_mono HO_485002.out (fun _ hk => ⟨⟨hk.2, ⟨hk.1.2.1, ⟨hk.1.2.2.1, ⟨hk.1.2.2.2.1, hk.1.2.2.2.2⟩⟩⟩⟩, hk.1.1⟩)) hg hat); replace HO_485003 := Aside0.mk (Kd.V_afterv (ok := (fun k_ => some k_ ≠ (v509 : Value).ownBlock ∧ k_ ≠ gb481 ∧ k_ ≠ gb484 ∧ k_ ≠ gb506 ∧ k_ ≠ gb507)) (by (with_reducible repeat (first | apply Kd.V_alloc | apply Kd.V_drewN | apply Kd.V_drew)); exact Kd.V_mono HO_485003.out (fun _ hk => ⟨⟨hk.2, ⟨hk.1.2.1, ⟨hk.1.2.2.1, ⟨hk.1.2.2.2.1, hk.1.2.2.2.2⟩⟩⟩⟩, hk.1.1⟩)) hg hat); replace BK481 := Aside0.mk (blk_grown (g := gb481) (o := .cells #[.int .i64 a0_0, .int .i64 a0_1, .int .i64 a0_2, .int .i64 a0_3] 23 (0, 0)) (bo BK481) hg (Kd.R_ne HO_8.out BK481.out (by decide))); replace BK484 := Aside0.mk (blk_grown (g := gb484) (o := .cells #[.int .i64 t494, .int .i64 t495, .slice Ao56 t496.length co56, .slice Ao58 t499.length co58] 27 (0, 0)) (bo BK484) hg (Kd.R_ne HO_8.out BK484.out (by decide))); replace HO498 := Aside0.mk (Kd.V_afterv (ok := (fun k_ => some k_ ≠ (v509 : Value).ownBlock ∧ k_ ≠ gb481 ∧ k_ ≠ gb484 ∧ k_ ≠ gb506 ∧ k_ ≠ gb507)) (by (with_reducible repeat (first | apply Kd.V_alloc | apply Kd.V_drewN | apply Kd.V_drew)); exact Kd.V_mono HO498.out (fun _ hk => ⟨⟨hk.2, ⟨hk.1.2.1, ⟨hk.1.2.2.1, ⟨hk.1.2.2.2.1, hk.1.2.2.2.2⟩⟩⟩⟩, hk.1.1⟩)) hg hat); replace HO501 := Aside0.mk (Kd.V_afterv (ok := (fun k_ => some k_ ≠ (v509 : Value).ownBlock ∧ k_ ≠ gb481 ∧ k_ ≠ gb484 ∧ k_ ≠ gb506 ∧ k_ ≠ gb507)) (by (with_reducible repeat (first | apply Kd.V_alloc | apply Kd.V_drewN | apply Kd.V_drew)); exact Kd.V_mono HO501.out (fun _ hk => ⟨⟨hk.2, ⟨hk.1.2.1, ⟨hk.1.2.2.1, ⟨hk.1.2.2.2.1, hk.1.2.2.2.2⟩⟩⟩⟩, hk.1.1⟩)) hg hat); replace BK506 := Aside0.mk (blk_grown (g := gb506) (o := .cells #[.int .i64 t494, .int .i64 t495, .slice Ao56 t496.length co56, .slice Ao58 t499.length co58] 27 (0, 0)) (bo BK506) hg (Kd.R_ne HO_8.out BK506.out (by decide))); replace BK507 := Aside0.mk (blk_grown (g := gb507) (o := .cells #[.bool false, .int .i64 t503, .int .i64 t504, .int .i64 t505] 32 (0, 0)) (bo BK507) hg (Kd.R_ne HO_8.out BK507.out (by decide))); replace HO510 := Aside0.mk (Kd.R_after (ok := (fun _ => True)) (by (with_reducible repeat (first | apply Kd.R_alloc | apply Kd.R_drewN | apply Kd.R_drew)); exact Kd.R_mono HO510.out (fun _ hk => ⟨trivial, hk⟩)) hg hat); replace HB := Aside0.mk (hb); clear HO_8; clear ho hb hg hat))
                      go_meet
                      case rel => exact ⟨_, (y517), (x10_4), (by first | (with_reducible rfl) | rfl | (simp; done) | (simp [*]; done)), H', ⟨by have := HJ2.out; have := HK2.out; have := HJ20.out; have := HK4.out; first | omega | exact Nat.le_refl _⟩, ⟨by (with_reducible repeat (first | apply Kd.R_alloc | apply Kd.R_drewN | apply Kd.R_drew)); exact Kd.R_mono HO510.out (fun _ hk => hk.2)⟩, ⟨by (with_reducible repeat (first | apply Kd.R_alloc | apply Kd.R_drewN | apply Kd.R_drew)); exact HO519.out⟩, ⟨by (with_reducible repeat (first | apply Kd.V_alloc | apply Kd.V_drewN | apply Kd.V_drew)); exact Kd.V_mono HO498.out (fun _ hk => ⟨hk.1.1, ⟨hk.2, ⟨hk.1.2.1, ⟨hk.1.2.2.1, ⟨hk.1.2.2.2.1, hk.1.2.2.2.2⟩⟩⟩⟩⟩)⟩, ⟨by (with_reducible repeat (first | apply Kd.V_alloc | apply Kd.V_drewN | apply Kd.V_drew)); exact Kd.V_mono HO501.out (fun _ hk => ⟨hk.1.1, ⟨hk.2, ⟨hk.1.2.1, ⟨hk.1.2.2.1, ⟨hk.1.2.2.2.1, hk.1.2.2.2.2⟩⟩⟩⟩⟩)⟩, ⟨by (with_reducible repeat (first | apply Kd.V_alloc | apply Kd.V_drewN | apply Kd.V_drew)); exact Kd.V_mono HO498.out (fun _ hk => ⟨hk.1.1, ⟨hk.2, ⟨hk.1.2.1, ⟨hk.1.2.2.1, ⟨hk.1.2.2.2.1, hk.1.2.2.2.2⟩⟩⟩⟩⟩)⟩, ⟨by (with_reducible repeat (first | apply Kd.V_alloc | apply Kd.V_drewN | apply Kd.V_drew)); exact Kd.V_mono HO501.out (fun _ hk => ⟨hk.1.1, ⟨hk.2, ⟨hk.1.2.1, ⟨hk.1.2.2.1, ⟨hk.1.2.2.2.1, hk.1.2.2.2.2⟩⟩⟩⟩⟩)⟩, ⟨bo BK481⟩, ⟨bo BK484⟩, ⟨bo BK506⟩, ⟨bo BK507⟩, ⟨bl HB⟩⟩
                     ·rw [if_neg c79] at H
                      exact absurd H (by simp)
                   case rest =>
                    clear HC46
                    try clear c7; try clear c44; try clear c76; try clear c77; try clear c79; try clear hcz67_0; try clear hcz67_1; try clear hcz67_2; try clear hcz67_3; try clear hcz70_0; try clear hcz70_1; try clear hcz70_2; try clear hcz70_3; try clear hcz75_0; try clear hcz75_1; try clear hcz75_2; try clear hcz75_3; try clear hfz67_0; try clear hfz67_1; try clear hfz67_2; try clear hfz67_3; try clear hfz70_0; try clear hfz70_1; try clear hfz70_2; try clear hfz70_3; try clear hfz75_0; try clear hfz75_1; try clear hfz75_2; try clear hfz75_3; try clear hx511_0; try clear hx511_1; try clear hx512_0; try clear hx512_1; try clear hx516_0; try clear hx516_1; try clear p511; try clear p512; try clear p516; try clear q511; try clear q512; try clear q516
                    obtain ⟨kq, x8_45, x10_45, rfl, HA, HJ45, HO_7, HO_8, HO_485002, HO_485003, HO_507002, HO_507003, BK481, BK484, BK506, BK507, HB⟩ := hcut
                    cases kq with
                    | zero => exact absurd HA.out (by simp [sandglasslaw13_ExactRate.j4])
                    | succ kj45 =>
                     have H := HA.out
                     clear HA
                     simp only [sandglasslaw13_ExactRate.j4] at H
                     have HC81 := Aside0.mk H
                     clear H
                     go_upto_region 28 with (fail)
                     go_cut [154] (fun v154 wc => ∃ (kq : Nat) (x154_80 : Bool), v154 = .bool x154_80 ∧ Aside0 (sandglasslaw13_ExactRate.j5 kq l1 (wrap64 (x6_2 + ((rd_T45 l1 x9_2).f0))) y508 x8_45 x9_2 x154_80 a0_0 a0_1 a0_2 a0_3 t494 t495 t496 t499 = some r) ∧ Aside0 (kq ≤ kj45) ∧ Aside0 (Kd.R (Kd.int .i64) 3 wc w.heap.size (fun k_ => some k_ ≠ (u8 : Value).ownBlock) v509 y508) ∧ Aside0 (Kd.R (Kd.int .i64) 3 wc w.heap.size (fun k_ => some k_ ≠ (v509 : Value).ownBlock) u8 x8_45) ∧ Aside0 (Kd.V (Kd.int .i64) 3 wc w.heap.size (fun k_ => some k_ ≠ (v509 : Value).ownBlock ∧ some k_ ≠ (u8 : Value).ownBlock ∧ k_ ≠ gb481 ∧ k_ ≠ gb484 ∧ k_ ≠ gb506 ∧ k_ ≠ gb507) (.slice Ao56 t496.length co56) t496) ∧ Aside0 (Kd.V k50 50 wc w.heap.size (fun k_ => some k_ ≠ (v509 : Value).ownBlock ∧ some k_ ≠ (u8 : Value).ownBlock ∧ k_ ≠ gb481 ∧ k_ ≠ gb484 ∧ k_ ≠ gb506 ∧ k_ ≠ gb507) (.slice Ao58 t499.length co58) t499) ∧ Aside0 (Kd.V (Kd.int .i64) 3 wc w.heap.size (fun k_ => some k_ ≠ (v509 : Value).ownBlock ∧ some k_ ≠ (u8 : Value).ownBlock ∧ k_ ≠ gb481 ∧ k_ ≠ gb484 ∧ k_ ≠ gb506 ∧ k_ ≠ gb507) (.slice Ao56 t496.length co56) t496) ∧ Aside0 (Kd.V k50 50 wc w.heap.size (fun k_ => some k_ ≠ (v509 : Value).ownBlock ∧ some k_ ≠ (u8 : Value).ownBlock ∧ k_ ≠ gb481 ∧ k_ ≠ gb484 ∧ k_ ≠ gb506 ∧ k_ ≠ gb507) (.slice Ao58 t499.length co58) t499) ∧ Aside0 (wc.heap[gb481]? = some (.cells #[.int .i64 a0_0, .int .i64 a0_1, .int .i64 a0_2, .int .i64 a0_3] 23 (0, 0))) ∧ Aside0 (wc.heap[gb484]? = some (.cells #[.int .i64 t494, .int .i64 t495, (.slice Ao56 t496.length co56), (.slice Ao58 t499.length co58)] 27 (0, 0))) ∧ Aside0 (wc.heap[gb506]? = some (.cells #[.int .i64 t494, .int .i64 t495, (.slice Ao56 t496.length co56), (.slice Ao58 t499.length co58)] 27 (0, 0))) ∧ Aside0 (wc.heap[gb507]? = some (.cells #[.bool t502, .int .i64 t503, .int .i64 t504, .int .i64 t505] 32 (0, 0))) ∧ Aside0 (Below w.heap.size w wc))
                     case first =>
                      have H := HC81.out
                      clear HC81
                      by_cases c82 : t503 = (wrap64 (a0_1 - x10_45))
                      ·rw [if_pos c82] at H
                       have c82b0 : (t503 == (wrap64 (a0_1 - x10_45))) = true := beq_iff_eq.mpr c82
                       have c82b1 : (t503 != (wrap64 (a0_1 - x10_45))) = false := bne_eq_false_iff_eq.mpr c82
                       clear c82
                       (first | rw [c82b0] | (simp only [i64_w, i32_w]; rw [c82b0]) | skip)
                       by_cases c83 : x10_45 > a0_1
                       ·rw [if_pos c83] at H
                        have c83b0 : decide (a0_1 < x10_45) = true := decide_eq_true c83
                        clear c83
                        have H' := Aside0.mk H
                        clear H
                        have hnb84 := NB507_481.out
                        have hnc84 := NB481_507.out
                        have hnb85 := NB507_484.out
                        have hnc85 := NB484_507.out
                        have hnb86 := NB507_506.out
                        have hnc86 := NB506_507.out
                        obtain ⟨hcz87_0, hcz87_1, hcz87_2, hcz87_3⟩ := ce4 BK507
                        obtain ⟨hfz87_0, hfz87_1, hfz87_2, hfz87_3⟩ := fr4 BK507
                        have hnb88 := NB481_484.out
                        have hnc88 := NB484_481.out
                        have hnb89 := NB481_506.out
                        have hnc89 := NB506_481.out
                        obtain ⟨hcz90_0, hcz90_1, hcz90_2, hcz90_3⟩ := ce4 BK481
                        obtain ⟨hfz90_0, hfz90_1, hfz90_2, hfz90_3⟩ := fr4 BK481
                        go_wp2
                        go_meet
                        case rel => exact ⟨_, (true), (by first | (with_reducible rfl) | rfl | (simp; done) | (simp [*]; done)), H', ⟨by have := HJ2.out; have := HK2.out; have := HJ20.out; have := HK4.out; have := HJ45.out; first | omega | exact Nat.le_refl _⟩, ⟨by (with_reducible repeat (first | apply Kd.R_alloc | apply Kd.R_drewN | apply Kd.R_drew)); exact HO_7.out⟩, ⟨by (with_reducible repeat (first | apply Kd.R_alloc | apply Kd.R_drewN | apply Kd.R_drew)); exact HO_8.out⟩, ⟨by (with_reducible repeat (first | apply Kd.V_alloc | apply Kd.V_drewN | apply Kd.V_drew)); exact HO_485002.out⟩, ⟨by (with_reducible repeat (first | apply Kd.V_alloc | apply Kd.V_drewN | apply Kd.V_drew)); exact HO_485003.out⟩, ⟨by (with_reducible repeat (first | apply Kd.V_alloc | apply Kd.V_drewN | apply Kd.V_drew)); exact HO_507002.out⟩, ⟨by (with_reducible repeat (first | apply Kd.V_alloc | apply Kd.V_drewN | apply Kd.V_drew)); exact HO_507003.out⟩, ⟨bo BK481⟩, ⟨bo BK484⟩, ⟨bo BK506⟩, ⟨bo BK507⟩, ⟨bl HB⟩⟩
                       ·rw [if_neg c83] at H
                        have c83b0 : decide (a0_1 < x10_45) = false := decide_eq_false c83
                        clear c83
                        have H' := Aside0.mk H
                        clear H
                        have hnb91 := NB507_481.out
                        have hnc91 := NB481_507.out
                        have hnb92 := NB507_484.out
                        have hnc92 := NB484_507.out
                        have hnb93 := NB507_506.out
                        have hnc93 := NB506_507.out
                        obtain ⟨hcz94_0, hcz94_1, hcz94_2, hcz94_3⟩ := ce4 BK507
                        obtain ⟨hfz94_0, hfz94_1, hfz94_2, hfz94_3⟩ := fr4 BK507
                        have hnb95 := NB481_484.out
                        have hnc95 := NB484_481.out
                        have hnb96 := NB481_506.out
                        have hnc96 := NB506_481.out
                        obtain ⟨hcz97_0, hcz97_1, hcz97_2, hcz97_3⟩ := ce4 BK481
                        obtain ⟨hfz97_0, hfz97_1, hfz97_2, hfz97_3⟩ := fr4 BK481
                        have hnb98 := NB484_506.out
                        have hnc98 := NB506_484.out
                        obtain ⟨hcz99_0, hcz99_1, hcz99_2, hcz99_3⟩ := ce4 BK484
                        obtain ⟨hfz99_0, hfz99_1, hfz99_2, hfz99_3⟩ := fr4 BK484
                        go_wp2
                        go_meet
                        case rel => exact ⟨_, (decide ((t499.length : Int) > 16)), (by first | (with_reducible rfl) | rfl | (simp; done) | (simp [*]; done)), H', ⟨by have := HJ2.out; have := HK2.out; have := HJ20.out; have := HK4.out; have := HJ45.out; first | omega | exact Nat.le_refl _⟩, ⟨by (with_reducible repeat (first | apply Kd.R_alloc | apply Kd.R_drewN | apply Kd.R_drew)); exact HO_7.out⟩, ⟨by (with_reducible repeat (first | apply Kd.R_alloc | apply Kd.R_drewN | apply Kd.R_drew)); exact HO_8.out⟩, ⟨by (with_reducible repeat (first | apply Kd.V_alloc | apply Kd.V_drewN | apply Kd.V_drew)); exact HO_485002.out⟩, ⟨by (with_reducible repeat (first | apply Kd.V_alloc | apply Kd.V_drewN | apply Kd.V_drew)); exact HO_485003.out⟩, ⟨by (with_reducible repeat (first | apply Kd.V_alloc | apply Kd.V_drewN | apply Kd.V_drew)); exact HO_507002.out⟩, ⟨by (with_reducible repeat (first | apply Kd.V_alloc | apply Kd.V_drewN | apply Kd.V_drew)); exact HO_507003.out⟩, ⟨bo BK481⟩, ⟨bo BK484⟩, ⟨bo BK506⟩, ⟨bo BK507⟩, ⟨bl HB⟩⟩
                      ·rw [if_neg c82] at H
                       have c82b0 : (t503 == (wrap64 (a0_1 - x10_45))) = false := beq_eq_false_iff_ne.mpr c82
                       have c82b1 : (t503 != (wrap64 (a0_1 - x10_45))) = true := bne_iff_ne.mpr c82
                       (first | rw [c82b0] | (simp only [i64_w, i32_w]; rw [c82b0]) | skip)
                       have H' := Aside0.mk H
                       clear H
                       have hnb100 := NB507_481.out
                       have hnc100 := NB481_507.out
                       have hnb101 := NB507_484.out
                       have hnc101 := NB484_507.out
                       have hnb102 := NB507_506.out
                       have hnc102 := NB506_507.out
                       obtain ⟨hcz103_0, hcz103_1, hcz103_2, hcz103_3⟩ := ce4 BK507
                       obtain ⟨hfz103_0, hfz103_1, hfz103_2, hfz103_3⟩ := fr4 BK507
                       have hnb104 := NB481_484.out
                       have hnc104 := NB484_481.out
                       have hnb105 := NB481_506.out
                       have hnc105 := NB506_481.out
                       obtain ⟨hcz106_0, hcz106_1, hcz106_2, hcz106_3⟩ := ce4 BK481
                       obtain ⟨hfz106_0, hfz106_1, hfz106_2, hfz106_3⟩ := fr4 BK481
                       go_wp2
                       go_meet
                       case rel => exact ⟨_, (true), (by first | (with_reducible rfl) | rfl | (simp; done) | (simp [*]; done)), H', ⟨by have := HJ2.out; have := HK2.out; have := HJ20.out; have := HK4.out; have := HJ45.out; first | omega | exact Nat.le_refl _⟩, ⟨by (with_reducible repeat (first | apply Kd.R_alloc | apply Kd.R_drewN | apply Kd.R_drew)); exact HO_7.out⟩, ⟨by (with_reducible repeat (first | apply Kd.R_alloc | apply Kd.R_drewN | apply Kd.R_drew)); exact HO_8.out⟩, ⟨by (with_reducible repeat (first | apply Kd.V_alloc | apply Kd.V_drewN | apply Kd.V_drew)); exact HO_485002.out⟩, ⟨by (with_reducible repeat (first | apply Kd.V_alloc | apply Kd.V_drewN | apply Kd.V_drew)); exact HO_485003.out⟩, ⟨by (with_reducible repeat (first | apply Kd.V_alloc | apply Kd.V_drewN | apply Kd.V_drew)); exact HO_507002.out⟩, ⟨by (with_reducible repeat (first | apply Kd.V_alloc | apply Kd.V_drewN | apply Kd.V_drew)); exact HO_507003.out⟩, ⟨bo BK481⟩, ⟨bo BK484⟩, ⟨bo BK506⟩, ⟨bo BK507⟩, ⟨bl HB⟩⟩
                     case rest =>
                      clear HC81
                      try clear c1; try clear c7; try clear c44; try clear c76; try clear c77; try clear c79; try clear c82; try clear c82b0; try clear c82b1; try clear c83; try clear c83b0; try clear hcz103_0; try clear hcz103_1; try clear hcz103_2; try clear hcz103_3; try clear hcz106_0; try clear hcz106_1; try clear hcz106_2; try clear hcz106_3; try clear hcz67_0; try clear hcz67_1; try clear hcz67_2; try clear hcz67_3; try clear hcz70_0; try clear hcz70_1; try clear hcz70_2; try clear hcz70_3; try clear hcz75_0; try clear hcz75_1; try clear hcz75_2; try clear hcz75_3; try clear hcz87_0; try clear hcz87_1; try clear hcz87_2; try clear hcz87_3; try clear hcz90_0; try clear hcz90_1; try clear hcz90_2; try clear hcz90_3; try clear hcz94_0; try clear hcz94_1; try clear hcz94_2; try clear hcz94_3; try clear hcz97_0; try clear hcz97_1; try clear hcz97_2; try clear hcz97_3; try clear hcz99_0; try clear hcz99_1; try clear hcz99_2; try clear hcz99_3; try clear hfz103_0; try clear hfz103_1; try clear hfz103_2; try clear hfz103_3; try clear hfz106_0; try clear hfz106_1; try clear hfz106_2; try clear hfz106_3; try clear hfz67_0; try clear hfz67_1; try clear hfz67_2; try clear hfz67_3; try clear hfz70_0; try clear hfz70_1; try clear hfz70_2; try clear hfz70_3; try clear hfz75_0; try clear hfz75_1; try clear hfz75_2; try clear hfz75_3; try clear hfz87_0; try clear hfz87_1; try clear hfz87_2; try clear hfz87_3; try clear hfz90_0; try clear hfz90_1; try clear hfz90_2; try clear hfz90_3; try clear hfz94_0; try clear hfz94_1; try clear hfz94_2; try clear hfz94_3; try clear hfz97_0; try clear hfz97_1; try clear hfz97_2; try clear hfz97_3; try clear hfz99_0; try clear hfz99_1; try clear hfz99_2; try clear hfz99_3; try clear hx511_0; try clear hx511_1; try clear hx512_0; try clear hx512_1; try clear hx516_0; try clear hx516_1; try clear p511; try clear p512; try clear p516; try clear q511; try clear q512; try clear q516
                      obtain ⟨kq, x154_80, rfl, HA, HJ80, HO_7, HO_8, HO_485002, HO_485003, HO_507002, HO_507003, BK481, BK484, BK506, BK507, HB⟩ := hcut
                      cases kq with
                      | zero => exact absurd HA.out (by simp [sandglasslaw13_ExactRate.j5])
                      | succ kj80 =>
                       have H := HA.out
                       clear HA
                       simp only [sandglasslaw13_ExactRate.j5] at H
                       by_cases c107 : x154_80 = true
                       ·subst c107
                        rw [if_pos rfl] at H
                        exact absurd H (by simp)
                       ·replace c107 := Bool.eq_false_iff.mpr c107
                        subst c107
                        rw [if_neg (show ¬ (false = true) by decide)] at H
                        have H' := Aside0.mk H
                        clear H
                        go_wp2
                        go_roundg kj80
                        case measure => have := HJ2.out; have := HK2.out; have := HJ20.out; have := HK4.out; have := HJ45.out; have := HJ80.out; omega
                        case rel => exact ⟨((wrap64 (x6_2 + ((rd_T45 l1 x9_2).f0)))), (y508), (x8_45), (wrap64 (x9_2 + 1)), (t494), (t495), (t496), (t499), (.slice Ao56 t496.length co56), (.slice Ao58 t499.length co58), (by first | (with_reducible rfl) | rfl | (simp; done) | (simp [*]; done)), (by first | (with_reducible rfl) | rfl | (simp; done) | (simp [*]; done)), H', ⟨by have := HJ2.out; have := HK2.out; have := HJ20.out; have := HK4.out; have := HJ45.out; have := HJ80.out; omega⟩, ⟨by (with_reducible repeat (first | apply Kd.R_alloc | apply Kd.R_drewN | apply Kd.R_drew)); exact HO_7.out⟩, ⟨by (with_reducible repeat (first | apply Kd.R_alloc | apply Kd.R_drewN | apply Kd.R_drew)); exact HO_8.out⟩, ⟨by (with_reducible repeat (first | apply Kd.V_alloc | apply Kd.V_drewN | apply Kd.V_drew)); exact Kd.V_mono HO_485002.out (fun _ hk => ⟨hk.1, ⟨hk.2.1, ⟨hk.2.2.1, hk.2.2.2.1⟩⟩⟩)⟩, ⟨by (with_reducible repeat (first | apply Kd.V_alloc | apply Kd.V_drewN | apply Kd.V_drew)); exact Kd.V_mono HO_485003.out (fun _ hk => ⟨hk.1, ⟨hk.2.1, ⟨hk.2.2.1, hk.2.2.2.1⟩⟩⟩)⟩, ⟨bo BK481⟩, ⟨bo BK484⟩, ⟨bl HB⟩⟩
                 ·rw [if_neg c44] at H
                  exact absurd H (by simp)
                ·rw [if_neg c42] at H
                 exact absurd H (by simp)
               ·rw [if_neg c41] at H
                exact absurd H (by simp)
           ·rw [if_neg c30] at H
            exact absurd H (by simp)
          ·rw [if_neg c29] at H
           exact absurd H (by simp)
      ·rw [if_neg c20] at H
       have c20b0 : decide (x9_2 < (l1.length : Int)) = false := decide_eq_false c20
       clear c20
       replace H := Option.bind_eq_some_iff.mp H
       obtain ⟨t520, A1080, H⟩ := H
       have A108 := Aside0.mk A1080
       clear A1080
       obtain rfl := Option.some.inj H
       go_wp2_with (first | ((with_reducible refine gate_callee (f := 9) rfl ?_); refine goesL_ (some 155) rfl rfl Try.func9 (by kernel_rfl) rfl #[] rfl (by (try simp only [List.map_toArray, List.map_cons, List.map_nil]); first | done | rfl | (simp only [List.length_drop, List.length_take]; rfl)) ?_; (with_reducible refine (sandglasslaw13_live.calls k2  t520 _ A108.out).mono ?_); rintro e w109 ⟨rfl, hb⟩; refine ⟨_, rfl, ?_⟩; replace HO_7 := Aside0.mk (Kd.R_below (by (with_reducible repeat (first | apply Kd.R_alloc | apply Kd.R_drewN | apply Kd.R_drew)); exact HO_7.out) hb); replace HO_8 := Aside0.mk (Kd.R_below (by (with_reducible repeat (first | apply Kd.R_alloc | apply Kd.R_drewN | apply Kd.R_drew)); exact HO_8.out) hb); replace HO_485002 := vb HO_485002 hb; replace HO_485003 := vb HO_485003 hb; replace BK481 := Aside0.mk (blk_below (bo BK481) hb); replace BK484 := Aside0.mk (blk_below (bo BK484) hb); replace HB := Aside0.mk (below_step (bl HB) hb); (try clear hb); (try clear hb2); (try clear hk); (try clear hi)))
       go_ret
       exact ⟨by first | (with_reducible rfl) | rfl | (simp [errW_none, errW_some] <;> rfl) | (simp [*, errW_none, errW_some] <;> rfl), bl HB⟩

end Go.Proofs.Ytempbjcmhillgaa.Q
