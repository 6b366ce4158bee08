-- Laid by wip/tools/hprint.py, a program of this repo, over the kit's print; not a text of print.sh.
import Derived.Test.YtlnadabohaobnaaQ0
import Derived.Test.YtlnadabohaobnaaQ4
import Derived.Test.YtlnadabohaobnaaQ8
import Derived.Test.YtlnadabohaobnaaQ10
import Derived.Test.YtlnadabohaobnaaQ12
import Derived.Test.YtlnadabohaobnaaQ13
import Derived.Test.YtlnadabohaobnaaQ14
import Derived.Test.YtlnadabohaobnaaQ17
import Derived.Test.YtlnadabohaobnaaQ19
namespace Go.Proofs.Ytlnadabohaobnaa.Q
open Go.RowKit Go.Proofs.Ytlnadabohaobnaa.Zip Go.Proofs.YtlnadabohaobnaaW.PrintWords Go.Proofs.YtlnadabohaobnaaW.PrintLast Go.Proofs.YtlnadabohaobnaaW.PrintMore
attribute [local go_sem] max2_int min2_int max_two min_two max_three min_three max_four min_four   -- for this text's walks alone
set_option linter.unusedVariables false
set_option linter.unusedSimpArgs false

/-! ### sandglasslaw11_FixedMay: function 4 -/
mutual
def sandglasslaw11_FixedMay.j0 : Nat → Int → Int → Bool → Int → Int → Int → Int → Int → Int → List Int → List (S53) → Option (Bool)
  | 0, _, _, _, _, _, _, _, _, _, _, _ => none
  | k + 1, x7, x8, x47, x278000, x278001, x278002, x278003, x279000, x279001, x279002, x279003 => if x47 = true then ((sandglasslaw11_live.f k).bind fun t283 => (some t283)) else ((fixed_Ask.f k x278000 x278001 x278002 x278003 x279000 x279001 x279002 x279003 x7 x8).bind fun bt284 => ((fixed_May.f x278000 x278001 x278002 x278003 bt284.1 bt284.2.1 bt284.2.2.1 bt284.2.2.2.1).bind fun t298 => (if t298 = true then (if bt284.1 = (mx x7 x279000) then ((fixed_Total.f k x278000 x278001 x278002 x278003 bt284.1 bt284.2.1 bt284.2.2.1 bt284.2.2.2.1 bt284.1).bind fun t299 => (if bt284.2.2.2.2.2.1 = (wrap64 (x278001 - t299)) then (sandglasslaw11_FixedMay.j1 k x8 (decide (bt284.2.2.2.2.2.1 < 0)) x278000 x278001 x278002 x278003 bt284.1 bt284.2.1 bt284.2.2.1 bt284.2.2.2.1 bt284.2.2.2.2.1 bt284.2.2.2.2.2.1 bt284.2.2.2.2.2.2.1 bt284.2.2.2.2.2.2.2) else (sandglasslaw11_FixedMay.j1 k x8 true x278000 x278001 x278002 x278003 bt284.1 bt284.2.1 bt284.2.2.1 bt284.2.2.2.1 bt284.2.2.2.2.1 bt284.2.2.2.2.2.1 bt284.2.2.2.2.2.2.1 bt284.2.2.2.2.2.2.2))) else (sandglasslaw11_FixedMay.j1 k x8 true x278000 x278001 x278002 x278003 bt284.1 bt284.2.1 bt284.2.2.1 bt284.2.2.2.1 bt284.2.2.2.2.1 bt284.2.2.2.2.2.1 bt284.2.2.2.2.2.2.1 bt284.2.2.2.2.2.2.2)) else (sandglasslaw11_FixedMay.j1 k x8 true x278000 x278001 x278002 x278003 bt284.1 bt284.2.1 bt284.2.2.1 bt284.2.2.2.1 bt284.2.2.2.2.1 bt284.2.2.2.2.2.1 bt284.2.2.2.2.2.2.1 bt284.2.2.2.2.2.2.2))))
def sandglasslaw11_FixedMay.j1 : Nat → Int → Bool → Int → Int → Int → Int → Int → Int → List Int → List (S53) → Bool → Int → Int → Int → Option (Bool)
  | 0, _, _, _, _, _, _, _, _, _, _, _, _, _, _ => none
  | k + 1, x8, x87, x278000, x278001, x278002, x278003, x297000, x297001, x297002, x297003, x298000, x298001, x298002, x298003 => if x87 = true then (none) else (if x298001 > 0 then ((fixed_Ask.f k x278000 x278001 x278002 x278003 x297000 x297001 x297002 x297003 x297000 x298001).bind fun bt300 => (if bt300.2.2.2.2.1 = true then (sandglasslaw11_FixedMay.j2 k x8 x278000 x278001 x278002 x278003 x297000 x297001 x297002 x297003 x298000 x298001 x298002 x298003) else (none))) else (sandglasslaw11_FixedMay.j2 k x8 x278000 x278001 x278002 x278003 x297000 x297001 x297002 x297003 x298000 x298001 x298002 x298003))
def sandglasslaw11_FixedMay.j2 : Nat → Int → Int → Int → Int → Int → Int → Int → List Int → List (S53) → Bool → Int → Int → Int → Option (Bool)
  | 0, _, _, _, _, _, _, _, _, _, _, _, _, _ => none
  | k + 1, x8, x278000, x278001, x278002, x278003, x297000, x297001, x297002, x297003, x298000, x298001, x298002, x298003 => (fixed_Total.f k x278000 x278001 x278002 x278003 x297000 x297001 x297002 x297003 (wrap64 (x297000 + x298003))).bind fun t314 => (if t314 = 0 then (if x298003 > 0 then ((fixed_Total.f k x278000 x278001 x278002 x278003 x297000 x297001 x297002 x297003 (wrap64 ((wrap64 (x297000 + x298003)) - 1))).bind fun t315 => (if t315 = 0 then (sandglasslaw11_FixedMay.j3 k x8 true x278000 x278001 x278002 x278003 x297000 x297001 x297002 x297003 x298000 x298001 x298002 x298003) else ((fixed_Ends.f x278000 x278001 x278002 x278003 x297000 x297001 x297002 x297003).bind fun t316 => (sandglasslaw11_FixedMay.j3 k x8 (t316 != (wrap64 (x297000 + x298003))) x278000 x278001 x278002 x278003 x297000 x297001 x297002 x297003 x298000 x298001 x298002 x298003)))) else ((fixed_Ends.f x278000 x278001 x278002 x278003 x297000 x297001 x297002 x297003).bind fun t317 => (sandglasslaw11_FixedMay.j3 k x8 (t317 != (wrap64 (x297000 + x298003))) x278000 x278001 x278002 x278003 x297000 x297001 x297002 x297003 x298000 x298001 x298002 x298003))) else (sandglasslaw11_FixedMay.j3 k x8 true x278000 x278001 x278002 x278003 x297000 x297001 x297002 x297003 x298000 x298001 x298002 x298003))
def sandglasslaw11_FixedMay.j3 : Nat → Int → Bool → Int → Int → Int → Int → Int → Int → List Int → List (S53) → Bool → Int → Int → Int → Option (Bool)
  | 0, _, _, _, _, _, _, _, _, _, _, _, _, _, _ => none
  | k + 1, x8, x140, x278000, x278001, x278002, x278003, x297000, x297001, x297002, x297003, x298000, x298001, x298002, x298003 => if x140 = true then (none) else (if x298000 = true then (if x298002 = 0 then ((sandglasslaw11_live.f k).bind fun t318 => (some t318)) else (none)) else (if x8 > x278001 then (if x298002 = 2199023255552 then ((sandglasslaw11_live.f k).bind fun t319 => (some t319)) else (none)) else ((fixed_Ask.f k x278000 x278001 x278002 x278003 x297000 x297001 x297002 x297003 (wrap64 (x297000 + x298002)) x8).bind fun bt320 => ((fixed_Ask.f k x278000 x278001 x278002 x278003 x297000 x297001 x297002 x297003 (wrap64 ((wrap64 (x297000 + x298002)) - 1)) x8).bind fun bt334 => (if x298002 > 0 then (if bt320.2.2.2.2.1 = true then (if bt334.2.2.2.2.1 = true then (none) else ((sandglasslaw11_live.f k).bind fun t348 => (some t348))) else (none)) else (none))))))
end
def sandglasslaw11_FixedMay.f (k : Nat) (a0_0 : Int) (a0_1 : Int) (a0_2 : Int) (a0_3 : Int) (a1_0 : Int) (a1_1 : Int) (l1_2 : List Int) (l1_3 : List (S53)) (a2_0 : Int) (a2_1 : Int) : Option (Bool) := (sandglassref10_Few.f a1_0 a1_1 l1_2 l1_3).bind fun t280 => (if t280 = true then ((sandglassref11_May.f k a0_0 a0_1 a0_2 a0_3 a1_0 a1_1 l1_2 l1_3).bind fun t281 => (if t281 = true then (if a2_0 < 0 then (sandglasslaw11_FixedMay.j0 k a2_0 a2_1 true a0_0 a0_1 a0_2 a0_3 a1_0 a1_1 l1_2 l1_3) else (if a2_0 > 549755813888 then (sandglasslaw11_FixedMay.j0 k a2_0 a2_1 true a0_0 a0_1 a0_2 a0_3 a1_0 a1_1 l1_2 l1_3) else (if a1_0 > 549755813888 then (sandglasslaw11_FixedMay.j0 k a2_0 a2_1 true a0_0 a0_1 a0_2 a0_3 a1_0 a1_1 l1_2 l1_3) else ((sandglassref09_Weighs.f a2_1).bind fun t282 => (sandglasslaw11_FixedMay.j0 k a2_0 a2_1 (!t282) a0_0 a0_1 a0_2 a0_3 a1_0 a1_1 l1_2 l1_3))))) else (sandglasslaw11_FixedMay.j0 k a2_0 a2_1 true a0_0 a0_1 a0_2 a0_3 a1_0 a1_1 l1_2 l1_3))) else (sandglasslaw11_FixedMay.j0 k a2_0 a2_1 true a0_0 a0_1 a0_2 a0_3 a1_0 a1_1 l1_2 l1_3))
theorem sandglasslaw11_FixedMay.mono_l : ∀ k, (∀ y0 y1 y2 y3 y4 y5 y6 y7 y8 y9 y10, LeO (sandglasslaw11_FixedMay.j0 k y0 y1 y2 y3 y4 y5 y6 y7 y8 y9 y10) (sandglasslaw11_FixedMay.j0 (k + 1) y0 y1 y2 y3 y4 y5 y6 y7 y8 y9 y10)) ∧ (∀ y0 y1 y2 y3 y4 y5 y6 y7 y8 y9 y10 y11 y12 y13, LeO (sandglasslaw11_FixedMay.j1 k y0 y1 y2 y3 y4 y5 y6 y7 y8 y9 y10 y11 y12 y13) (sandglasslaw11_FixedMay.j1 (k + 1) y0 y1 y2 y3 y4 y5 y6 y7 y8 y9 y10 y11 y12 y13)) ∧ (∀ y0 y1 y2 y3 y4 y5 y6 y7 y8 y9 y10 y11 y12, LeO (sandglasslaw11_FixedMay.j2 k y0 y1 y2 y3 y4 y5 y6 y7 y8 y9 y10 y11 y12) (sandglasslaw11_FixedMay.j2 (k + 1) y0 y1 y2 y3 y4 y5 y6 y7 y8 y9 y10 y11 y12)) ∧ (∀ y0 y1 y2 y3 y4 y5 y6 y7 y8 y9 y10 y11 y12 y13, LeO (sandglasslaw11_FixedMay.j3 k y0 y1 y2 y3 y4 y5 y6 y7 y8 y9 y10 y11 y12 y13) (sandglasslaw11_FixedMay.j3 (k + 1) y0 y1 y2 y3 y4 y5 y6 y7 y8 y9 y10 y11 y12 y13))
  | 0 => ⟨fun _ _ _ _ _ _ _ _ _ _ _ r h => by simp [sandglasslaw11_FixedMay.j0] at h, fun _ _ _ _ _ _ _ _ _ _ _ _ _ _ r h => by simp [sandglasslaw11_FixedMay.j1] at h, fun _ _ _ _ _ _ _ _ _ _ _ _ _ r h => by simp [sandglasslaw11_FixedMay.j2] at h, fun _ _ _ _ _ _ _ _ _ _ _ _ _ _ r h => by simp [sandglasslaw11_FixedMay.j3] at h⟩
  | k + 1 => by
    obtain ⟨ih0, ih1, ih2, ih3⟩ := sandglasslaw11_FixedMay.mono_l k
    refine ⟨?_, ?_, ?_, ?_⟩
    · intro y0 y1 y2 y3 y4 y5 y6 y7 y8 y9 y10
      unfold sandglasslaw11_FixedMay.j0
      repeat' first
      | (with_reducible exact ih0 _ _ _ _ _ _ _ _ _ _ _)
      | (with_reducible exact ih1 _ _ _ _ _ _ _ _ _ _ _ _ _ _)
      | (with_reducible exact ih2 _ _ _ _ _ _ _ _ _ _ _ _ _)
      | (with_reducible exact ih3 _ _ _ _ _ _ _ _ _ _ _ _ _ _)
      | (with_reducible exact fixed_Ask.mono _ _ _ _ _ _ _ _ _ _ _)
      | (with_reducible exact fixed_Total.mono _ _ _ _ _ _ _ _ _ _)
      | (with_reducible exact sandglasslaw11_live.mono _)
      | (with_reducible exact sandglassref11_May.mono _ _ _ _ _ _ _ _ _)
      | (with_reducible exact LeO.refl _)
      | (with_reducible exact LeO.none _)
      | (with_reducible refine LeO.ite ?_ ?_)
      | (with_reducible refine LeO.bind ?_ (fun _ => ?_))
      | exact ih0 _ _ _ _ _ _ _ _ _ _ _
      | exact ih1 _ _ _ _ _ _ _ _ _ _ _ _ _ _
      | exact ih2 _ _ _ _ _ _ _ _ _ _ _ _ _
      | exact ih3 _ _ _ _ _ _ _ _ _ _ _ _ _ _
      | exact fixed_Ask.mono _ _ _ _ _ _ _ _ _ _ _
      | exact fixed_Total.mono _ _ _ _ _ _ _ _ _ _
      | exact sandglasslaw11_live.mono _
      | exact sandglassref11_May.mono _ _ _ _ _ _ _ _ _
      | exact LeO.none _
      | refine LeO.ite ?_ ?_
      | refine LeO.bind ?_ (fun _ => ?_)
    · intro y0 y1 y2 y3 y4 y5 y6 y7 y8 y9 y10 y11 y12 y13
      unfold sandglasslaw11_FixedMay.j1
      repeat' first
      | (with_reducible exact ih0 _ _ _ _ _ _ _ _ _ _ _)
      | (with_reducible exact ih1 _ _ _ _ _ _ _ _ _ _ _ _ _ _)
      | (with_reducible exact ih2 _ _ _ _ _ _ _ _ _ _ _ _ _)
      | (with_reducible exact ih3 _ _ _ _ _ _ _ _ _ _ _ _ _ _)
      | (with_reducible exact fixed_Ask.mono _ _ _ _ _ _ _ _ _ _ _)
      | (with_reducible exact fixed_Total.mono _ _ _ _ _ _ _ _ _ _)
      | (with_reducible exact sandglasslaw11_live.mono _)
      | (with_reducible exact sandglassref11_May.mono _ _ _ _ _ _ _ _ _)
      | (with_reducible exact LeO.refl _)
      | (with_reducible exact LeO.none _)
      | (with_reducible refine LeO.ite ?_ ?_)
      | (with_reducible refine LeO.bind ?_ (fun _ => ?_))
      | exact ih0 _ _ _ _ _ _ _ _ _ _ _
      | exact ih1 _ _ _ _ _ _ _ _ _ _ _ _ _ _
      | exact ih2 _ _ _ _ _ _ _ _ _ _ _ _ _
      | exact ih3 _ _ _ _ _ _ _ _ _ _ _ _ _ _
      | exact fixed_Ask.mono _ _ _ _ _ _ _ _ _ _ _
      | exact fixed_Total.mono _ _ _ _ _ _ _ _ _ _
      | exact sandglasslaw11_live.mono _
      | exact sandglassref11_May.mono _ _ _ _ _ _ _ _ _
      | exact LeO.none _
      | refine LeO.ite ?_ ?_
      | refine LeO.bind ?_ (fun _ => ?_)
    · intro y0 y1 y2 y3 y4 y5 y6 y7 y8 y9 y10 y11 y12
      unfold sandglasslaw11_FixedMay.j2
      repeat' first
      | (with_reducible exact ih0 _ _ _ _ _ _ _ _ _ _ _)
      | (with_reducible exact ih1 _ _ _ _ _ _ _ _ _ _ _ _ _ _)
      | (with_reducible exact ih2 _ _ _ _ _ _ _ _ _ _ _ _ _)
      | (with_reducible exact ih3 _ _ _ _ _ _ _ _ _ _ _ _ _ _)
      | (with_reducible exact fixed_Ask.mono _ _ _ _ _ _ _ _ _ _ _)
      | (with_reducible exact fixed_Total.mono _ _ _ _ _ _ _ _ _ _)
      | (with_reducible exact sandglasslaw11_live.mono _)
      | (with_reducible exact sandglassref11_May.mono _ _ _ _ _ _ _ _ _)
      | (with_reducible exact LeO.refl _)
      | (with_reducible exact LeO.none _)
      | (with_reducible refine LeO.ite ?_ ?_)
      | (with_reducible refine LeO.bind ?_ (fun _ => ?_))
      | exact ih0 _ _ _ _ _ _ _ _ _ _ _
      | exact ih1 _ _ _ _ _ _ _ _ _ _ _ _ _ _
      | exact ih2 _ _ _ _ _ _ _ _ _ _ _ _ _
      | exact ih3 _ _ _ _ _ _ _ _ _ _ _ _ _ _
      | exact fixed_Ask.mono _ _ _ _ _ _ _ _ _ _ _
      | exact fixed_Total.mono _ _ _ _ _ _ _ _ _ _
      | exact sandglasslaw11_live.mono _
      | exact sandglassref11_May.mono _ _ _ _ _ _ _ _ _
      | exact LeO.none _
      | refine LeO.ite ?_ ?_
      | refine LeO.bind ?_ (fun _ => ?_)
    · intro y0 y1 y2 y3 y4 y5 y6 y7 y8 y9 y10 y11 y12 y13
      unfold sandglasslaw11_FixedMay.j3
      repeat' first
      | (with_reducible exact ih0 _ _ _ _ _ _ _ _ _ _ _)
      | (with_reducible exact ih1 _ _ _ _ _ _ _ _ _ _ _ _ _ _)
      | (with_reducible exact ih2 _ _ _ _ _ _ _ _ _ _ _ _ _)
      | (with_reducible exact ih3 _ _ _ _ _ _ _ _ _ _ _ _ _ _)
      | (with_reducible exact fixed_Ask.mono _ _ _ _ _ _ _ _ _ _ _)
      | (with_reducible exact fixed_Total.mono _ _ _ _ _ _ _ _ _ _)
      | (with_reducible exact sandglasslaw11_live.mono _)
      | (with_reducible exact sandglassref11_May.mono _ _ _ _ _ _ _ _ _)
      | (with_reducible exact LeO.refl _)
      | (with_reducible exact LeO.none _)
      | (with_reducible refine LeO.ite ?_ ?_)
      | (with_reducible refine LeO.bind ?_ (fun _ => ?_))
      | exact ih0 _ _ _ _ _ _ _ _ _ _ _
      | exact ih1 _ _ _ _ _ _ _ _ _ _ _ _ _ _
      | exact ih2 _ _ _ _ _ _ _ _ _ _ _ _ _
      | exact ih3 _ _ _ _ _ _ _ _ _ _ _ _ _ _
      | exact fixed_Ask.mono _ _ _ _ _ _ _ _ _ _ _
      | exact fixed_Total.mono _ _ _ _ _ _ _ _ _ _
      | exact sandglasslaw11_live.mono _
      | exact sandglassref11_May.mono _ _ _ _ _ _ _ _ _
      | exact LeO.none _
      | refine LeO.ite ?_ ?_
      | refine LeO.bind ?_ (fun _ => ?_)
theorem sandglasslaw11_FixedMay.mono : ∀ a0 a1 a2 a3 a4 a5 a6 a7 a8 a9 k, LeO (sandglasslaw11_FixedMay.f k a0 a1 a2 a3 a4 a5 a6 a7 a8 a9) (sandglasslaw11_FixedMay.f (k + 1) a0 a1 a2 a3 a4 a5 a6 a7 a8 a9) := by
  intro a0 a1 a2 a3 a4 a5 a6 a7 a8 a9 k
  obtain ⟨ih0, ih1, ih2, ih3⟩ := sandglasslaw11_FixedMay.mono_l k
  unfold sandglasslaw11_FixedMay.f
  repeat' first
      | (with_reducible exact ih0 _ _ _ _ _ _ _ _ _ _ _)
      | (with_reducible exact ih1 _ _ _ _ _ _ _ _ _ _ _ _ _ _)
      | (with_reducible exact ih2 _ _ _ _ _ _ _ _ _ _ _ _ _)
      | (with_reducible exact ih3 _ _ _ _ _ _ _ _ _ _ _ _ _ _)
      | (with_reducible exact fixed_Ask.mono _ _ _ _ _ _ _ _ _ _ _)
      | (with_reducible exact fixed_Total.mono _ _ _ _ _ _ _ _ _ _)
      | (with_reducible exact sandglasslaw11_live.mono _)
      | (with_reducible exact sandglassref11_May.mono _ _ _ _ _ _ _ _ _)
      | (with_reducible exact LeO.refl _)
      | (with_reducible exact LeO.none _)
      | (with_reducible refine LeO.ite ?_ ?_)
      | (with_reducible refine LeO.bind ?_ (fun _ => ?_))
      | exact ih0 _ _ _ _ _ _ _ _ _ _ _
      | exact ih1 _ _ _ _ _ _ _ _ _ _ _ _ _ _
      | exact ih2 _ _ _ _ _ _ _ _ _ _ _ _ _
      | exact ih3 _ _ _ _ _ _ _ _ _ _ _ _ _ _
      | exact fixed_Ask.mono _ _ _ _ _ _ _ _ _ _ _
      | exact fixed_Total.mono _ _ _ _ _ _ _ _ _ _
      | exact sandglasslaw11_live.mono _
      | exact sandglassref11_May.mono _ _ _ _ _ _ _ _ _
      | exact LeO.none _
      | refine LeO.ite ?_ ?_
      | refine LeO.bind ?_ (fun _ => ?_)
def sandglasslaw11_FixedMay.T5 : Bool × List (List Nat × List Nat) := (true, [([], []), ([], []), ([0, 1], [0, 1]), ([2], [2]), ([3, 2], [3]), ([4], [4]), ([5, 4], [4, 5]), ([4], [4]), ([4], [4]), ([8, 4], [4, 8]), ([7, 9, 4], [4, 7, 9]), ([6, 10, 4], [4, 6, 10]), ([4, 11], [4, 11]), ([12, 4], [12]), ([13], [13]), ([14, 13], [13, 14]), ([13], [13]), ([16, 13], [13, 16]), ([13], [13]), ([13], [13]), ([13], [13]), ([20, 13], [13, 20]), ([18, 19, 21, 13, 13], [13, 18, 19, 21]), ([17, 22, 13], [13, 17, 22]), ([15, 23, 13], [13, 15, 23]), ([13, 24], [13, 24]), ([25, 22], [25]), ([26], [26]), ([27, 26], [26, 27]), ([28, 26], [26, 28]), ([26, 29], [26, 29])])
def sandglasslaw11_FixedMay.B5 : List Nat := [0, 0, 3, 7, 15, 31, 63, 31, 31, 287, 927, 2047, 4095, 8191, 16383, 32767, 16383, 81919, 16383, 16383, 16383, 1064959, 3948543, 8339455, 16777215, 33554431, 67108863, 134217727, 268435455, 536870911, 1073741823]
theorem sandglasslaw11_FixedMay.tab5 : rtab .any (opsOf Try.f4 5) = sandglasslaw11_FixedMay.T5 := by kernel_rfl
theorem sandglasslaw11_FixedMay.bits5 : waitsOk sandglasslaw11_FixedMay.T5.2 sandglasslaw11_FixedMay.B5 = true := by kernel_rfl
def sandglasslaw11_FixedMay.T11 : Bool × List (List Nat × List Nat) := (true, [([], []), ([], []), ([], []), ([2], [2]), ([], []), ([4], [4]), ([3, 5], [3, 5]), ([0, 1, 6], [0, 1, 6]), ([7], [7]), ([8, 7], [8]), ([9], [9]), ([10, 9], [9, 10]), ([11, 9], [9, 11]), ([12, 9, 9], [9, 12]), ([13], [13]), ([13], [13]), ([13], [13]), ([16, 13], [13, 16]), ([13], [13]), ([18, 13], [13, 18]), ([17, 19, 13], [13, 17, 19]), ([20, 13], [13, 20]), ([14, 15, 21, 13, 13], [13, 14, 15, 21]), ([22, 13], [13, 22]), ([13, 23, 9], [9, 13, 23]), ([9, 24], [9, 24]), ([25, 22], [25]), ([26], [26]), ([26], [26]), ([27, 28, 26, 26], [26, 27, 28]), ([26], [26]), ([30, 26], [26, 30]), ([26], [26]), ([32, 26], [26, 32]), ([31, 33, 26], [26, 31, 33]), ([29, 34, 26], [26, 29, 34]), ([26, 35], [26, 35])])
def sandglasslaw11_FixedMay.B11 : List Nat := [0, 0, 0, 4, 0, 16, 60, 127, 255, 511, 1023, 2047, 4095, 8191, 16383, 16383, 16383, 81919, 16383, 278527, 999423, 2047999, 4194303, 8388607, 16777215, 33554431, 67108863, 134217727, 134217727, 536870911, 134217727, 1207959551, 134217727, 4429185023, 16240345087, 34359738367, 68719476735]
theorem sandglasslaw11_FixedMay.tab11 : rtab .any (opsOf Try.f4 11) = sandglasslaw11_FixedMay.T11 := by kernel_rfl
theorem sandglasslaw11_FixedMay.bits11 : waitsOk sandglasslaw11_FixedMay.T11.2 sandglasslaw11_FixedMay.B11 = true := by kernel_rfl
end Go.Proofs.Ytlnadabohaobnaa.Q
