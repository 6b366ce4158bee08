-- Laid by wip/tools/hprint.py, a program of this repo, over the kit's print; not a text of print.sh.
import Derived.Test.YtalcmlgkdkbbaaaQ0
import Derived.Test.YtalcmlgkdkbbaaaQ3
import Derived.Test.YtalcmlgkdkbbaaaQ10
import Derived.Test.YtalcmlgkdkbbaaaQ16
import Derived.Test.YtalcmlgkdkbbaaaQ17
import Derived.Test.YtalcmlgkdkbbaaaQ18
import Derived.Test.YtalcmlgkdkbbaaaQ19
import Derived.Test.YtalcmlgkdkbbaaaQ23
import Derived.Test.YtalcmlgkdkbbaaaQ24
namespace Go.Proofs.Ytalcmlgkdkbbaaa.Q
open Go.RowKit Go.Proofs.Ytalcmlgkdkbbaaa.Zip Go.Proofs.YtalcmlgkdkbbaaaW.PrintWords Go.Proofs.YtalcmlgkdkbbaaaW.PrintLast Go.Proofs.YtalcmlgkdkbbaaaW.PrintMore
attribute [local go_sem] max2_int min2_int max_two min_two max_three min_three max_four min_four   -- for this text's walks alone
set_option linter.unusedVariables false
set_option linter.unusedSimpArgs false

/-! ### sandglasslaw12_RingMay: function 4 -/
mutual
def sandglasslaw12_RingMay.j0 : Nat → Int → Int → Bool → Int → Int → Int → Int → Int → Int → List Int → List (S54) → Option (Bool)
  | 0, _, _, _, _, _, _, _, _, _, _, _ => none
  | k + 1, x7, x8, x47, x375000, x375001, x375002, x375003, x376000, x376001, x376002, x376003 => if x47 = true then ((sandglasslaw12_live.f k).bind fun t380 => (some t380)) else ((ring_Ask.f k x375000 x375001 x375002 x375003 x376000 x376001 x376002 x376003 x7 x8).bind fun bt381 => ((ring_May.f k x375000 x375001 x375002 x375003 bt381.1 bt381.2.1 bt381.2.2.1 bt381.2.2.2.1).bind fun t395 => (if t395 = true then (if bt381.1 = (mx x7 x376000) then ((ring_Total.f k x375000 x375001 x375002 x375003 bt381.1 bt381.2.1 bt381.2.2.1 bt381.2.2.2.1 bt381.1).bind fun t396 => (if bt381.2.2.2.2.2.1 = (wrap64 (x375001 - t396)) then (sandglasslaw12_RingMay.j1 k x8 (decide (bt381.2.2.2.2.2.1 < 0)) x375000 x375001 x375002 x375003 bt381.1 bt381.2.1 bt381.2.2.1 bt381.2.2.2.1 bt381.2.2.2.2.1 bt381.2.2.2.2.2.1 bt381.2.2.2.2.2.2.1 bt381.2.2.2.2.2.2.2) else (sandglasslaw12_RingMay.j1 k x8 true x375000 x375001 x375002 x375003 bt381.1 bt381.2.1 bt381.2.2.1 bt381.2.2.2.1 bt381.2.2.2.2.1 bt381.2.2.2.2.2.1 bt381.2.2.2.2.2.2.1 bt381.2.2.2.2.2.2.2))) else (sandglasslaw12_RingMay.j1 k x8 true x375000 x375001 x375002 x375003 bt381.1 bt381.2.1 bt381.2.2.1 bt381.2.2.2.1 bt381.2.2.2.2.1 bt381.2.2.2.2.2.1 bt381.2.2.2.2.2.2.1 bt381.2.2.2.2.2.2.2)) else (sandglasslaw12_RingMay.j1 k x8 true x375000 x375001 x375002 x375003 bt381.1 bt381.2.1 bt381.2.2.1 bt381.2.2.2.1 bt381.2.2.2.2.1 bt381.2.2.2.2.2.1 bt381.2.2.2.2.2.2.1 bt381.2.2.2.2.2.2.2))))
def sandglasslaw12_RingMay.j1 : Nat → Int → Bool → Int → Int → Int → Int → Int → Int → List Int → List (S54) → Bool → Int → Int → Int → Option (Bool)
  | 0, _, _, _, _, _, _, _, _, _, _, _, _, _, _ => none
  | k + 1, x8, x87, x375000, x375001, x375002, x375003, x394000, x394001, x394002, x394003, x395000, x395001, x395002, x395003 => if x87 = true then (none) else (if x395001 > 0 then ((ring_Ask.f k x375000 x375001 x375002 x375003 x394000 x394001 x394002 x394003 x394000 x395001).bind fun bt397 => (if bt397.2.2.2.2.1 = true then (sandglasslaw12_RingMay.j2 k x8 x375000 x375001 x375002 x375003 x394000 x394001 x394002 x394003 x395000 x395001 x395002 x395003) else (none))) else (sandglasslaw12_RingMay.j2 k x8 x375000 x375001 x375002 x375003 x394000 x394001 x394002 x394003 x395000 x395001 x395002 x395003))
def sandglasslaw12_RingMay.j2 : Nat → Int → Int → Int → Int → Int → Int → Int → List Int → List (S54) → Bool → Int → Int → Int → Option (Bool)
  | 0, _, _, _, _, _, _, _, _, _, _, _, _, _ => none
  | k + 1, x8, x375000, x375001, x375002, x375003, x394000, x394001, x394002, x394003, x395000, x395001, x395002, x395003 => (ring_Total.f k x375000 x375001 x375002 x375003 x394000 x394001 x394002 x394003 (wrap64 (x394000 + x395003))).bind fun t411 => (if t411 = 0 then (if x395003 > 0 then ((ring_Total.f k x375000 x375001 x375002 x375003 x394000 x394001 x394002 x394003 (wrap64 ((wrap64 (x394000 + x395003)) - 1))).bind fun t412 => (if t412 = 0 then (sandglasslaw12_RingMay.j3 k x8 true x375000 x375001 x375002 x375003 x394000 x394001 x394002 x394003 x395000 x395001 x395002 x395003) else ((ring_Ends.f k x375000 x375001 x375002 x375003 x394000 x394001 x394002 x394003).bind fun t413 => (sandglasslaw12_RingMay.j3 k x8 (t413 != (wrap64 (x394000 + x395003))) x375000 x375001 x375002 x375003 x394000 x394001 x394002 x394003 x395000 x395001 x395002 x395003)))) else ((ring_Ends.f k x375000 x375001 x375002 x375003 x394000 x394001 x394002 x394003).bind fun t414 => (sandglasslaw12_RingMay.j3 k x8 (t414 != (wrap64 (x394000 + x395003))) x375000 x375001 x375002 x375003 x394000 x394001 x394002 x394003 x395000 x395001 x395002 x395003))) else (sandglasslaw12_RingMay.j3 k x8 true x375000 x375001 x375002 x375003 x394000 x394001 x394002 x394003 x395000 x395001 x395002 x395003))
def sandglasslaw12_RingMay.j3 : Nat → Int → Bool → Int → Int → Int → Int → Int → Int → List Int → List (S54) → Bool → Int → Int → Int → Option (Bool)
  | 0, _, _, _, _, _, _, _, _, _, _, _, _, _, _ => none
  | k + 1, x8, x140, x375000, x375001, x375002, x375003, x394000, x394001, x394002, x394003, x395000, x395001, x395002, x395003 => if x140 = true then (none) else (if x395000 = true then (if x395002 = 0 then ((sandglasslaw12_live.f k).bind fun t415 => (some t415)) else (none)) else (if x8 > x375001 then (if x395002 = 2199023255552 then ((sandglasslaw12_live.f k).bind fun t416 => (some t416)) else (none)) else ((ring_Ask.f k x375000 x375001 x375002 x375003 x394000 x394001 x394002 x394003 (wrap64 (x394000 + x395002)) x8).bind fun bt417 => ((ring_Ask.f k x375000 x375001 x375002 x375003 x394000 x394001 x394002 x394003 (wrap64 ((wrap64 (x394000 + x395002)) - 1)) x8).bind fun bt431 => (if x395002 > 0 then (if bt417.2.2.2.2.1 = true then (if bt431.2.2.2.2.1 = true then (none) else ((sandglasslaw12_live.f k).bind fun t445 => (some t445))) else (none)) else (none))))))
end
def sandglasslaw12_RingMay.f (k : Nat) (a0_0 : Int) (a0_1 : Int) (a0_2 : Int) (a0_3 : Int) (a1_0 : Int) (a1_1 : Int) (l1_2 : List Int) (l1_3 : List (S54)) (a2_0 : Int) (a2_1 : Int) : Option (Bool) := (sandglassref10_Few.f a1_0 a1_1 l1_2 l1_3).bind fun t377 => (if t377 = true then ((sandglassref12_May.f k a0_0 a0_1 a0_2 a0_3 a1_0 a1_1 l1_2 l1_3).bind fun t378 => (if t378 = true then (if a2_0 < 0 then (sandglasslaw12_RingMay.j0 k a2_0 a2_1 true a0_0 a0_1 a0_2 a0_3 a1_0 a1_1 l1_2 l1_3) else (if a2_0 > 549755813888 then (sandglasslaw12_RingMay.j0 k a2_0 a2_1 true a0_0 a0_1 a0_2 a0_3 a1_0 a1_1 l1_2 l1_3) else (if a1_0 > 549755813888 then (sandglasslaw12_RingMay.j0 k a2_0 a2_1 true a0_0 a0_1 a0_2 a0_3 a1_0 a1_1 l1_2 l1_3) else ((sandglassref09_Weighs.f a2_1).bind fun t379 => (sandglasslaw12_RingMay.j0 k a2_0 a2_1 (!t379) a0_0 a0_1 a0_2 a0_3 a1_0 a1_1 l1_2 l1_3))))) else (sandglasslaw12_RingMay.j0 k a2_0 a2_1 true a0_0 a0_1 a0_2 a0_3 a1_0 a1_1 l1_2 l1_3))) else (sandglasslaw12_RingMay.j0 k a2_0 a2_1 true a0_0 a0_1 a0_2 a0_3 a1_0 a1_1 l1_2 l1_3))
theorem sandglasslaw12_RingMay.mono_l : ∀ k, (∀ y0 y1 y2 y3 y4 y5 y6 y7 y8 y9 y10, LeO (sandglasslaw12_RingMay.j0 k y0 y1 y2 y3 y4 y5 y6 y7 y8 y9 y10) (sandglasslaw12_RingMay.j0 (k + 1) y0 y1 y2 y3 y4 y5 y6 y7 y8 y9 y10)) ∧ (∀ y0 y1 y2 y3 y4 y5 y6 y7 y8 y9 y10 y11 y12 y13, LeO (sandglasslaw12_RingMay.j1 k y0 y1 y2 y3 y4 y5 y6 y7 y8 y9 y10 y11 y12 y13) (sandglasslaw12_RingMay.j1 (k + 1) y0 y1 y2 y3 y4 y5 y6 y7 y8 y9 y10 y11 y12 y13)) ∧ (∀ y0 y1 y2 y3 y4 y5 y6 y7 y8 y9 y10 y11 y12, LeO (sandglasslaw12_RingMay.j2 k y0 y1 y2 y3 y4 y5 y6 y7 y8 y9 y10 y11 y12) (sandglasslaw12_RingMay.j2 (k + 1) y0 y1 y2 y3 y4 y5 y6 y7 y8 y9 y10 y11 y12)) ∧ (∀ y0 y1 y2 y3 y4 y5 y6 y7 y8 y9 y10 y11 y12 y13, LeO (sandglasslaw12_RingMay.j3 k y0 y1 y2 y3 y4 y5 y6 y7 y8 y9 y10 y11 y12 y13) (sandglasslaw12_RingMay.j3 (k + 1) y0 y1 y2 y3 y4 y5 y6 y7 y8 y9 y10 y11 y12 y13))
  | 0 => ⟨fun _ _ _ _ _ _ _ _ _ _ _ r h => by simp [sandglasslaw12_RingMay.j0] at h, fun _ _ _ _ _ _ _ _ _ _ _ _ _ _ r h => by simp [sandglasslaw12_RingMay.j1] at h, fun _ _ _ _ _ _ _ _ _ _ _ _ _ r h => by simp [sandglasslaw12_RingMay.j2] at h, fun _ _ _ _ _ _ _ _ _ _ _ _ _ _ r h => by simp [sandglasslaw12_RingMay.j3] at h⟩
  | k + 1 => by
    obtain ⟨ih0, ih1, ih2, ih3⟩ := sandglasslaw12_RingMay.mono_l k
    refine ⟨?_, ?_, ?_, ?_⟩
    · intro y0 y1 y2 y3 y4 y5 y6 y7 y8 y9 y10
      unfold sandglasslaw12_RingMay.j0
      repeat' first
      | (with_reducible exact ih0 _ _ _ _ _ _ _ _ _ _ _)
      | (with_reducible exact ih1 _ _ _ _ _ _ _ _ _ _ _ _ _ _)
      | (with_reducible exact ih2 _ _ _ _ _ _ _ _ _ _ _ _ _)
      | (with_reducible exact ih3 _ _ _ _ _ _ _ _ _ _ _ _ _ _)
      | (with_reducible exact ring_Ask.mono _ _ _ _ _ _ _ _ _ _ _)
      | (with_reducible exact ring_Ends.mono _ _ _ _ _ _ _ _ _)
      | (with_reducible exact ring_May.mono _ _ _ _ _ _ _ _ _)
      | (with_reducible exact ring_Total.mono _ _ _ _ _ _ _ _ _ _)
      | (with_reducible exact sandglasslaw12_live.mono _)
      | (with_reducible exact sandglassref12_May.mono _ _ _ _ _ _ _ _ _)
      | (with_reducible exact LeO.refl _)
      | (with_reducible exact LeO.none _)
      | (with_reducible refine LeO.ite ?_ ?_)
      | (with_reducible refine LeO.bind ?_ (fun _ => ?_))
      | exact ih0 _ _ _ _ _ _ _ _ _ _ _
      | exact ih1 _ _ _ _ _ _ _ _ _ _ _ _ _ _
      | exact ih2 _ _ _ _ _ _ _ _ _ _ _ _ _
      | exact ih3 _ _ _ _ _ _ _ _ _ _ _ _ _ _
      | exact ring_Ask.mono _ _ _ _ _ _ _ _ _ _ _
      | exact ring_Ends.mono _ _ _ _ _ _ _ _ _
      | exact ring_May.mono _ _ _ _ _ _ _ _ _
      | exact ring_Total.mono _ _ _ _ _ _ _ _ _ _
      | exact sandglasslaw12_live.mono _
      | exact sandglassref12_May.mono _ _ _ _ _ _ _ _ _
      | exact LeO.none _
      | refine LeO.ite ?_ ?_
      | refine LeO.bind ?_ (fun _ => ?_)
    · intro y0 y1 y2 y3 y4 y5 y6 y7 y8 y9 y10 y11 y12 y13
      unfold sandglasslaw12_RingMay.j1
      repeat' first
      | (with_reducible exact ih0 _ _ _ _ _ _ _ _ _ _ _)
      | (with_reducible exact ih1 _ _ _ _ _ _ _ _ _ _ _ _ _ _)
      | (with_reducible exact ih2 _ _ _ _ _ _ _ _ _ _ _ _ _)
      | (with_reducible exact ih3 _ _ _ _ _ _ _ _ _ _ _ _ _ _)
      | (with_reducible exact ring_Ask.mono _ _ _ _ _ _ _ _ _ _ _)
      | (with_reducible exact ring_Ends.mono _ _ _ _ _ _ _ _ _)
      | (with_reducible exact ring_May.mono _ _ _ _ _ _ _ _ _)
      | (with_reducible exact ring_Total.mono _ _ _ _ _ _ _ _ _ _)
      | (with_reducible exact sandglasslaw12_live.mono _)
      | (with_reducible exact sandglassref12_May.mono _ _ _ _ _ _ _ _ _)
      | (with_reducible exact LeO.refl _)
      | (with_reducible exact LeO.none _)
      | (with_reducible refine LeO.ite ?_ ?_)
      | (with_reducible refine LeO.bind ?_ (fun _ => ?_))
      | exact ih0 _ _ _ _ _ _ _ _ _ _ _
      | exact ih1 _ _ _ _ _ _ _ _ _ _ _ _ _ _
      | exact ih2 _ _ _ _ _ _ _ _ _ _ _ _ _
      | exact ih3 _ _ _ _ _ _ _ _ _ _ _ _ _ _
      | exact ring_Ask.mono _ _ _ _ _ _ _ _ _ _ _
      | exact ring_Ends.mono _ _ _ _ _ _ _ _ _
      | exact ring_May.mono _ _ _ _ _ _ _ _ _
      | exact ring_Total.mono _ _ _ _ _ _ _ _ _ _
      | exact sandglasslaw12_live.mono _
      | exact sandglassref12_May.mono _ _ _ _ _ _ _ _ _
      | exact LeO.none _
      | refine LeO.ite ?_ ?_
      | refine LeO.bind ?_ (fun _ => ?_)
    · intro y0 y1 y2 y3 y4 y5 y6 y7 y8 y9 y10 y11 y12
      unfold sandglasslaw12_RingMay.j2
      repeat' first
      | (with_reducible exact ih0 _ _ _ _ _ _ _ _ _ _ _)
      | (with_reducible exact ih1 _ _ _ _ _ _ _ _ _ _ _ _ _ _)
      | (with_reducible exact ih2 _ _ _ _ _ _ _ _ _ _ _ _ _)
      | (with_reducible exact ih3 _ _ _ _ _ _ _ _ _ _ _ _ _ _)
      | (with_reducible exact ring_Ask.mono _ _ _ _ _ _ _ _ _ _ _)
      | (with_reducible exact ring_Ends.mono _ _ _ _ _ _ _ _ _)
      | (with_reducible exact ring_May.mono _ _ _ _ _ _ _ _ _)
      | (with_reducible exact ring_Total.mono _ _ _ _ _ _ _ _ _ _)
      | (with_reducible exact sandglasslaw12_live.mono _)
      | (with_reducible exact sandglassref12_May.mono _ _ _ _ _ _ _ _ _)
      | (with_reducible exact LeO.refl _)
      | (with_reducible exact LeO.none _)
      | (with_reducible refine LeO.ite ?_ ?_)
      | (with_reducible refine LeO.bind ?_ (fun _ => ?_))
      | exact ih0 _ _ _ _ _ _ _ _ _ _ _
      | exact ih1 _ _ _ _ _ _ _ _ _ _ _ _ _ _
      | exact ih2 _ _ _ _ _ _ _ _ _ _ _ _ _
      | exact ih3 _ _ _ _ _ _ _ _ _ _ _ _ _ _
      | exact ring_Ask.mono _ _ _ _ _ _ _ _ _ _ _
      | exact ring_Ends.mono _ _ _ _ _ _ _ _ _
      | exact ring_May.mono _ _ _ _ _ _ _ _ _
      | exact ring_Total.mono _ _ _ _ _ _ _ _ _ _
      | exact sandglasslaw12_live.mono _
      | exact sandglassref12_May.mono _ _ _ _ _ _ _ _ _
      | exact LeO.none _
      | refine LeO.ite ?_ ?_
      | refine LeO.bind ?_ (fun _ => ?_)
    · intro y0 y1 y2 y3 y4 y5 y6 y7 y8 y9 y10 y11 y12 y13
      unfold sandglasslaw12_RingMay.j3
      repeat' first
      | (with_reducible exact ih0 _ _ _ _ _ _ _ _ _ _ _)
      | (with_reducible exact ih1 _ _ _ _ _ _ _ _ _ _ _ _ _ _)
      | (with_reducible exact ih2 _ _ _ _ _ _ _ _ _ _ _ _ _)
      | (with_reducible exact ih3 _ _ _ _ _ _ _ _ _ _ _ _ _ _)
      | (with_reducible exact ring_Ask.mono _ _ _ _ _ _ _ _ _ _ _)
      | (with_reducible exact ring_Ends.mono _ _ _ _ _ _ _ _ _)
      | (with_reducible exact ring_May.mono _ _ _ _ _ _ _ _ _)
      | (with_reducible exact ring_Total.mono _ _ _ _ _ _ _ _ _ _)
      | (with_reducible exact sandglasslaw12_live.mono _)
      | (with_reducible exact sandglassref12_May.mono _ _ _ _ _ _ _ _ _)
      | (with_reducible exact LeO.refl _)
      | (with_reducible exact LeO.none _)
      | (with_reducible refine LeO.ite ?_ ?_)
      | (with_reducible refine LeO.bind ?_ (fun _ => ?_))
      | exact ih0 _ _ _ _ _ _ _ _ _ _ _
      | exact ih1 _ _ _ _ _ _ _ _ _ _ _ _ _ _
      | exact ih2 _ _ _ _ _ _ _ _ _ _ _ _ _
      | exact ih3 _ _ _ _ _ _ _ _ _ _ _ _ _ _
      | exact ring_Ask.mono _ _ _ _ _ _ _ _ _ _ _
      | exact ring_Ends.mono _ _ _ _ _ _ _ _ _
      | exact ring_May.mono _ _ _ _ _ _ _ _ _
      | exact ring_Total.mono _ _ _ _ _ _ _ _ _ _
      | exact sandglasslaw12_live.mono _
      | exact sandglassref12_May.mono _ _ _ _ _ _ _ _ _
      | exact LeO.none _
      | refine LeO.ite ?_ ?_
      | refine LeO.bind ?_ (fun _ => ?_)
theorem sandglasslaw12_RingMay.mono : ∀ a0 a1 a2 a3 a4 a5 a6 a7 a8 a9 k, LeO (sandglasslaw12_RingMay.f k a0 a1 a2 a3 a4 a5 a6 a7 a8 a9) (sandglasslaw12_RingMay.f (k + 1) a0 a1 a2 a3 a4 a5 a6 a7 a8 a9) := by
  intro a0 a1 a2 a3 a4 a5 a6 a7 a8 a9 k
  obtain ⟨ih0, ih1, ih2, ih3⟩ := sandglasslaw12_RingMay.mono_l k
  unfold sandglasslaw12_RingMay.f
  repeat' first
      | (with_reducible exact ih0 _ _ _ _ _ _ _ _ _ _ _)
      | (with_reducible exact ih1 _ _ _ _ _ _ _ _ _ _ _ _ _ _)
      | (with_reducible exact ih2 _ _ _ _ _ _ _ _ _ _ _ _ _)
      | (with_reducible exact ih3 _ _ _ _ _ _ _ _ _ _ _ _ _ _)
      | (with_reducible exact ring_Ask.mono _ _ _ _ _ _ _ _ _ _ _)
      | (with_reducible exact ring_Ends.mono _ _ _ _ _ _ _ _ _)
      | (with_reducible exact ring_May.mono _ _ _ _ _ _ _ _ _)
      | (with_reducible exact ring_Total.mono _ _ _ _ _ _ _ _ _ _)
      | (with_reducible exact sandglasslaw12_live.mono _)
      | (with_reducible exact sandglassref12_May.mono _ _ _ _ _ _ _ _ _)
      | (with_reducible exact LeO.refl _)
      | (with_reducible exact LeO.none _)
      | (with_reducible refine LeO.ite ?_ ?_)
      | (with_reducible refine LeO.bind ?_ (fun _ => ?_))
      | exact ih0 _ _ _ _ _ _ _ _ _ _ _
      | exact ih1 _ _ _ _ _ _ _ _ _ _ _ _ _ _
      | exact ih2 _ _ _ _ _ _ _ _ _ _ _ _ _
      | exact ih3 _ _ _ _ _ _ _ _ _ _ _ _ _ _
      | exact ring_Ask.mono _ _ _ _ _ _ _ _ _ _ _
      | exact ring_Ends.mono _ _ _ _ _ _ _ _ _
      | exact ring_May.mono _ _ _ _ _ _ _ _ _
      | exact ring_Total.mono _ _ _ _ _ _ _ _ _ _
      | exact sandglasslaw12_live.mono _
      | exact sandglassref12_May.mono _ _ _ _ _ _ _ _ _
      | exact LeO.none _
      | refine LeO.ite ?_ ?_
      | refine LeO.bind ?_ (fun _ => ?_)
def sandglasslaw12_RingMay.T5 : Bool × List (List Nat × List Nat) := (true, [([], []), ([], []), ([0, 1], [0, 1]), ([2], [2]), ([3, 2], [3]), ([4], [4]), ([5, 4], [4, 5]), ([4], [4]), ([4], [4]), ([8, 4], [4, 8]), ([7, 9, 4], [4, 7, 9]), ([6, 10, 4], [4, 6, 10]), ([4, 11], [4, 11]), ([12, 4], [12]), ([13], [13]), ([14, 13], [13, 14]), ([13], [13]), ([16, 13], [13, 16]), ([13], [13]), ([13], [13]), ([13], [13]), ([20, 13], [13, 20]), ([18, 19, 21, 13, 13], [13, 18, 19, 21]), ([17, 22, 13], [13, 17, 22]), ([15, 23, 13], [13, 15, 23]), ([13, 24], [13, 24]), ([25, 22], [25]), ([26], [26]), ([27, 26], [26, 27]), ([28, 26], [26, 28]), ([26, 29], [26, 29])])
def sandglasslaw12_RingMay.B5 : List Nat := [0, 0, 3, 7, 15, 31, 63, 31, 31, 287, 927, 2047, 4095, 8191, 16383, 32767, 16383, 81919, 16383, 16383, 16383, 1064959, 3948543, 8339455, 16777215, 33554431, 67108863, 134217727, 268435455, 536870911, 1073741823]
theorem sandglasslaw12_RingMay.tab5 : rtab .any (opsOf Try.f4 5) = sandglasslaw12_RingMay.T5 := by kernel_rfl
theorem sandglasslaw12_RingMay.bits5 : waitsOk sandglasslaw12_RingMay.T5.2 sandglasslaw12_RingMay.B5 = true := by kernel_rfl
def sandglasslaw12_RingMay.T11 : Bool × List (List Nat × List Nat) := (true, [([], []), ([], []), ([], []), ([2], [2]), ([], []), ([4], [4]), ([3, 5], [3, 5]), ([0, 1, 6], [0, 1, 6]), ([7], [7]), ([8, 7], [8]), ([9], [9]), ([10, 9], [9, 10]), ([11, 9], [9, 11]), ([12, 9, 9], [9, 12]), ([13], [13]), ([13], [13]), ([13], [13]), ([16, 13], [13, 16]), ([13], [13]), ([18, 13], [13, 18]), ([17, 19, 13], [13, 17, 19]), ([20, 13], [13, 20]), ([14, 15, 21, 13, 13], [13, 14, 15, 21]), ([22, 13], [13, 22]), ([13, 23, 9], [9, 13, 23]), ([9, 24], [9, 24]), ([25, 22], [25]), ([26], [26]), ([26], [26]), ([27, 28, 26, 26], [26, 27, 28]), ([26], [26]), ([30, 26], [26, 30]), ([26], [26]), ([32, 26], [26, 32]), ([31, 33, 26], [26, 31, 33]), ([29, 34, 26], [26, 29, 34]), ([26, 35], [26, 35])])
def sandglasslaw12_RingMay.B11 : List Nat := [0, 0, 0, 4, 0, 16, 60, 127, 255, 511, 1023, 2047, 4095, 8191, 16383, 16383, 16383, 81919, 16383, 278527, 999423, 2047999, 4194303, 8388607, 16777215, 33554431, 67108863, 134217727, 134217727, 536870911, 134217727, 1207959551, 134217727, 4429185023, 16240345087, 34359738367, 68719476735]
theorem sandglasslaw12_RingMay.tab11 : rtab .any (opsOf Try.f4 11) = sandglasslaw12_RingMay.T11 := by kernel_rfl
theorem sandglasslaw12_RingMay.bits11 : waitsOk sandglasslaw12_RingMay.T11.2 sandglasslaw12_RingMay.B11 = true := by kernel_rfl
end Go.Proofs.Ytalcmlgkdkbbaaa.Q
