-- Laid by wip/tools/hprint.py, a program of this repo, over the kit's print; not a text of print.sh.
import Derived.Test.YtpeljhmbaibjcaaQ0
import Derived.Test.YtpeljhmbaibjcaaQ3
import Derived.Test.YtpeljhmbaibjcaaQ11
import Derived.Test.YtpeljhmbaibjcaaQ19
import Derived.Test.YtpeljhmbaibjcaaQ20
import Derived.Test.YtpeljhmbaibjcaaQ21
import Derived.Test.YtpeljhmbaibjcaaQ22
import Derived.Test.YtpeljhmbaibjcaaQ25
import Derived.Test.YtpeljhmbaibjcaaQ27
namespace Go.Proofs.Ytpeljhmbaibjcaa.Q
open Go.RowKit Go.Proofs.Ytpeljhmbaibjcaa.Zip Go.Proofs.YtpeljhmbaibjcaaW.PrintWords Go.Proofs.YtpeljhmbaibjcaaW.PrintLast Go.Proofs.YtpeljhmbaibjcaaW.PrintMore
attribute [local go_sem] max2_int min2_int max_two min_two max_three min_three max_four min_four   -- for this text's walks alone
set_option linter.unusedVariables false
set_option linter.unusedSimpArgs false

/-! ### sandglasslaw10_GcraMay: function 4 -/
mutual
def sandglasslaw10_GcraMay.j0 : Nat → Int → Int → Bool → Int → Int → Int → Int → Int → Int → List Int → List (S57) → Option (Bool)
  | 0, _, _, _, _, _, _, _, _, _, _, _ => none
  | k + 1, x7, x8, x49, x296000, x296001, x296002, x296003, x297000, x297001, x297002, x297003 => if x49 = true then ((sandglasslaw10_live.f k).bind fun t301 => (some t301)) else ((gcra_Ask.f k x296000 x296001 x296002 x296003 x297000 x297001 x297002 x297003 x7 x8).bind fun bt302 => ((gcra_May.f k x296000 x296001 x296002 x296003 bt302.1 bt302.2.1 bt302.2.2.1 bt302.2.2.2.1).bind fun t316 => (if t316 = true then (sandglasslaw10_GcraMay.j1 k x8 (bt302.1 != (mx x7 x297000)) x296000 x296001 x296002 x296003 bt302.1 bt302.2.1 bt302.2.2.1 bt302.2.2.2.1 bt302.2.2.2.2.1 bt302.2.2.2.2.2.1 bt302.2.2.2.2.2.2.1 bt302.2.2.2.2.2.2.2) else (sandglasslaw10_GcraMay.j1 k x8 true x296000 x296001 x296002 x296003 bt302.1 bt302.2.1 bt302.2.2.1 bt302.2.2.2.1 bt302.2.2.2.2.1 bt302.2.2.2.2.2.1 bt302.2.2.2.2.2.2.1 bt302.2.2.2.2.2.2.2))))
def sandglasslaw10_GcraMay.j1 : Nat → Int → Bool → Int → Int → Int → Int → Int → Int → List Int → List (S57) → Bool → Int → Int → Int → Option (Bool)
  | 0, _, _, _, _, _, _, _, _, _, _, _, _, _, _ => none
  | k + 1, x8, x71, x296000, x296001, x296002, x296003, x315000, x315001, x315002, x315003, x316000, x316001, x316002, x316003 => if x71 = true then (none) else (if x316001 > 0 then ((gcra_Ask.f k x296000 x296001 x296002 x296003 x315000 x315001 x315002 x315003 x315000 x316001).bind fun bt317 => (if bt317.2.2.2.2.1 = true then (sandglasslaw10_GcraMay.j2 k x8 x296000 x296001 x296002 x296003 x315000 x315001 x315002 x315003 x316000 x316001 x316002 x316003) else (none))) else (sandglasslaw10_GcraMay.j2 k x8 x296000 x296001 x296002 x296003 x315000 x315001 x315002 x315003 x316000 x316001 x316002 x316003))
def sandglasslaw10_GcraMay.j2 : Nat → Int → Int → Int → Int → Int → Int → Int → List Int → List (S57) → Bool → Int → Int → Int → Option (Bool)
  | 0, _, _, _, _, _, _, _, _, _, _, _, _, _ => none
  | k + 1, x8, x296000, x296001, x296002, x296003, x315000, x315001, x315002, x315003, x316000, x316001, x316002, x316003 => (gcra_Ask.f k x296000 x296001 x296002 x296003 x315000 x315001 x315002 x315003 x315000 (wrap64 (x316001 + 1))).bind fun bt331 => (if x316001 < 0 then (sandglasslaw10_GcraMay.j3 k x8 true x296000 x296001 x296002 x296003 x315000 x315001 x315002 x315003 x316000 x316001 x316002 x316003) else (if x316001 > x296001 then (sandglasslaw10_GcraMay.j3 k x8 true x296000 x296001 x296002 x296003 x315000 x315001 x315002 x315003 x316000 x316001 x316002 x316003) else (if x316001 < 1048576 then (sandglasslaw10_GcraMay.j3 k x8 bt331.2.2.2.2.1 x296000 x296001 x296002 x296003 x315000 x315001 x315002 x315003 x316000 x316001 x316002 x316003) else (sandglasslaw10_GcraMay.j3 k x8 false x296000 x296001 x296002 x296003 x315000 x315001 x315002 x315003 x316000 x316001 x316002 x316003))))
def sandglasslaw10_GcraMay.j3 : Nat → Int → Bool → Int → Int → Int → Int → Int → Int → List Int → List (S57) → Bool → Int → Int → Int → Option (Bool)
  | 0, _, _, _, _, _, _, _, _, _, _, _, _, _, _ => none
  | k + 1, x8, x117, x296000, x296001, x296002, x296003, x315000, x315001, x315002, x315003, x316000, x316001, x316002, x316003 => if x117 = true then (none) else ((gcra_Level.f k x296000 x296001 x296002 x296003 x315000 x315001 x315002 x315003 (wrap64 (x315000 + x316003))).bind fun t345 => (if t345 = 0 then (if x316003 > 0 then ((gcra_Level.f k x296000 x296001 x296002 x296003 x315000 x315001 x315002 x315003 (wrap64 ((wrap64 (x315000 + x316003)) - 1))).bind fun t346 => (sandglasslaw10_GcraMay.j4 k x8 (t346 == 0) x296000 x296001 x296002 x296003 x315000 x315001 x315002 x315003 x316000 x316001 x316002 x316003)) else (sandglasslaw10_GcraMay.j4 k x8 false x296000 x296001 x296002 x296003 x315000 x315001 x315002 x315003 x316000 x316001 x316002 x316003)) else (sandglasslaw10_GcraMay.j4 k x8 true x296000 x296001 x296002 x296003 x315000 x315001 x315002 x315003 x316000 x316001 x316002 x316003)))
def sandglasslaw10_GcraMay.j4 : Nat → Int → Bool → Int → Int → Int → Int → Int → Int → List Int → List (S57) → Bool → Int → Int → Int → Option (Bool)
  | 0, _, _, _, _, _, _, _, _, _, _, _, _, _, _ => none
  | k + 1, x8, x143, x296000, x296001, x296002, x296003, x315000, x315001, x315002, x315003, x316000, x316001, x316002, x316003 => if x143 = true then (none) else (if x316000 = true then (if x316002 = 0 then ((gcra_Ends.f k x296000 x296001 x296002 x296003 x315000 x315001 x315002 x315003).bind fun t347 => (if t347 = (wrap64 (x315000 + x316003)) then ((sandglasslaw10_live.f k).bind fun t348 => (some t348)) else (none))) else (none)) else (if x8 > x296001 then (if x316002 = 2199023255552 then ((sandglasslaw10_live.f k).bind fun t349 => (some t349)) else (none)) else ((gcra_Ask.f k x296000 x296001 x296002 x296003 x315000 x315001 x315002 x315003 (wrap64 (x315000 + x316002)) x8).bind fun bt350 => ((gcra_Ask.f k x296000 x296001 x296002 x296003 x315000 x315001 x315002 x315003 (wrap64 ((wrap64 (x315000 + x316002)) - 1)) x8).bind fun bt364 => (if x316002 > 0 then (if bt350.2.2.2.2.1 = true then (if bt364.2.2.2.2.1 = true then (none) else ((sandglasslaw10_live.f k).bind fun t378 => (some t378))) else (none)) else (none))))))
end
def sandglasslaw10_GcraMay.f (k : Nat) (a0_0 : Int) (a0_1 : Int) (a0_2 : Int) (a0_3 : Int) (a1_0 : Int) (a1_1 : Int) (l1_2 : List Int) (l1_3 : List (S57)) (a2_0 : Int) (a2_1 : Int) : Option (Bool) := (sandglassref10_Few.f a1_0 a1_1 l1_2 l1_3).bind fun t298 => (if t298 = true then ((sandglassref10_May.f k a0_0 a0_1 a0_2 a0_3 a1_0 a1_1 l1_2 l1_3).bind fun t299 => (if t299 = true then (if a2_0 < 0 then (sandglasslaw10_GcraMay.j0 k a2_0 a2_1 true a0_0 a0_1 a0_2 a0_3 a1_0 a1_1 l1_2 l1_3) else (if a2_0 > 549755813888 then (sandglasslaw10_GcraMay.j0 k a2_0 a2_1 true a0_0 a0_1 a0_2 a0_3 a1_0 a1_1 l1_2 l1_3) else (if a1_0 > 549755813888 then (sandglasslaw10_GcraMay.j0 k a2_0 a2_1 true a0_0 a0_1 a0_2 a0_3 a1_0 a1_1 l1_2 l1_3) else ((sandglassref09_Weighs.f a2_1).bind fun t300 => (sandglasslaw10_GcraMay.j0 k a2_0 a2_1 (!t300) a0_0 a0_1 a0_2 a0_3 a1_0 a1_1 l1_2 l1_3))))) else (sandglasslaw10_GcraMay.j0 k a2_0 a2_1 true a0_0 a0_1 a0_2 a0_3 a1_0 a1_1 l1_2 l1_3))) else (sandglasslaw10_GcraMay.j0 k a2_0 a2_1 true a0_0 a0_1 a0_2 a0_3 a1_0 a1_1 l1_2 l1_3))
theorem sandglasslaw10_GcraMay.mono_l : ∀ k, (∀ y0 y1 y2 y3 y4 y5 y6 y7 y8 y9 y10, LeO (sandglasslaw10_GcraMay.j0 k y0 y1 y2 y3 y4 y5 y6 y7 y8 y9 y10) (sandglasslaw10_GcraMay.j0 (k + 1) y0 y1 y2 y3 y4 y5 y6 y7 y8 y9 y10)) ∧ (∀ y0 y1 y2 y3 y4 y5 y6 y7 y8 y9 y10 y11 y12 y13, LeO (sandglasslaw10_GcraMay.j1 k y0 y1 y2 y3 y4 y5 y6 y7 y8 y9 y10 y11 y12 y13) (sandglasslaw10_GcraMay.j1 (k + 1) y0 y1 y2 y3 y4 y5 y6 y7 y8 y9 y10 y11 y12 y13)) ∧ (∀ y0 y1 y2 y3 y4 y5 y6 y7 y8 y9 y10 y11 y12, LeO (sandglasslaw10_GcraMay.j2 k y0 y1 y2 y3 y4 y5 y6 y7 y8 y9 y10 y11 y12) (sandglasslaw10_GcraMay.j2 (k + 1) y0 y1 y2 y3 y4 y5 y6 y7 y8 y9 y10 y11 y12)) ∧ (∀ y0 y1 y2 y3 y4 y5 y6 y7 y8 y9 y10 y11 y12 y13, LeO (sandglasslaw10_GcraMay.j3 k y0 y1 y2 y3 y4 y5 y6 y7 y8 y9 y10 y11 y12 y13) (sandglasslaw10_GcraMay.j3 (k + 1) y0 y1 y2 y3 y4 y5 y6 y7 y8 y9 y10 y11 y12 y13)) ∧ (∀ y0 y1 y2 y3 y4 y5 y6 y7 y8 y9 y10 y11 y12 y13, LeO (sandglasslaw10_GcraMay.j4 k y0 y1 y2 y3 y4 y5 y6 y7 y8 y9 y10 y11 y12 y13) (sandglasslaw10_GcraMay.j4 (k + 1) y0 y1 y2 y3 y4 y5 y6 y7 y8 y9 y10 y11 y12 y13))
  | 0 => ⟨fun _ _ _ _ _ _ _ _ _ _ _ r h => by simp [sandglasslaw10_GcraMay.j0] at h, fun _ _ _ _ _ _ _ _ _ _ _ _ _ _ r h => by simp [sandglasslaw10_GcraMay.j1] at h, fun _ _ _ _ _ _ _ _ _ _ _ _ _ r h => by simp [sandglasslaw10_GcraMay.j2] at h, fun _ _ _ _ _ _ _ _ _ _ _ _ _ _ r h => by simp [sandglasslaw10_GcraMay.j3] at h, fun _ _ _ _ _ _ _ _ _ _ _ _ _ _ r h => by simp [sandglasslaw10_GcraMay.j4] at h⟩
  | k + 1 => by
    obtain ⟨ih0, ih1, ih2, ih3, ih4⟩ := sandglasslaw10_GcraMay.mono_l k
    refine ⟨?_, ?_, ?_, ?_, ?_⟩
    · intro y0 y1 y2 y3 y4 y5 y6 y7 y8 y9 y10
      unfold sandglasslaw10_GcraMay.j0
      repeat' first
      | (with_reducible exact ih0 _ _ _ _ _ _ _ _ _ _ _)
      | (with_reducible exact ih1 _ _ _ _ _ _ _ _ _ _ _ _ _ _)
      | (with_reducible exact ih2 _ _ _ _ _ _ _ _ _ _ _ _ _)
      | (with_reducible exact ih3 _ _ _ _ _ _ _ _ _ _ _ _ _ _)
      | (with_reducible exact ih4 _ _ _ _ _ _ _ _ _ _ _ _ _ _)
      | (with_reducible exact gcra_Ask.mono _ _ _ _ _ _ _ _ _ _ _)
      | (with_reducible exact gcra_Ends.mono _ _ _ _ _ _ _ _ _)
      | (with_reducible exact gcra_Level.mono _ _ _ _ _ _ _ _ _ _)
      | (with_reducible exact gcra_May.mono _ _ _ _ _ _ _ _ _)
      | (with_reducible exact sandglasslaw10_live.mono _)
      | (with_reducible exact sandglassref10_May.mono _ _ _ _ _ _ _ _ _)
      | (with_reducible exact LeO.refl _)
      | (with_reducible exact LeO.none _)
      | (with_reducible refine LeO.ite ?_ ?_)
      | (with_reducible refine LeO.bind ?_ (fun _ => ?_))
      | exact ih0 _ _ _ _ _ _ _ _ _ _ _
      | exact ih1 _ _ _ _ _ _ _ _ _ _ _ _ _ _
      | exact ih2 _ _ _ _ _ _ _ _ _ _ _ _ _
      | exact ih3 _ _ _ _ _ _ _ _ _ _ _ _ _ _
      | exact ih4 _ _ _ _ _ _ _ _ _ _ _ _ _ _
      | exact gcra_Ask.mono _ _ _ _ _ _ _ _ _ _ _
      | exact gcra_Ends.mono _ _ _ _ _ _ _ _ _
      | exact gcra_Level.mono _ _ _ _ _ _ _ _ _ _
      | exact gcra_May.mono _ _ _ _ _ _ _ _ _
      | exact sandglasslaw10_live.mono _
      | exact sandglassref10_May.mono _ _ _ _ _ _ _ _ _
      | exact LeO.none _
      | refine LeO.ite ?_ ?_
      | refine LeO.bind ?_ (fun _ => ?_)
    · intro y0 y1 y2 y3 y4 y5 y6 y7 y8 y9 y10 y11 y12 y13
      unfold sandglasslaw10_GcraMay.j1
      repeat' first
      | (with_reducible exact ih0 _ _ _ _ _ _ _ _ _ _ _)
      | (with_reducible exact ih1 _ _ _ _ _ _ _ _ _ _ _ _ _ _)
      | (with_reducible exact ih2 _ _ _ _ _ _ _ _ _ _ _ _ _)
      | (with_reducible exact ih3 _ _ _ _ _ _ _ _ _ _ _ _ _ _)
      | (with_reducible exact ih4 _ _ _ _ _ _ _ _ _ _ _ _ _ _)
      | (with_reducible exact gcra_Ask.mono _ _ _ _ _ _ _ _ _ _ _)
      | (with_reducible exact gcra_Ends.mono _ _ _ _ _ _ _ _ _)
      | (with_reducible exact gcra_Level.mono _ _ _ _ _ _ _ _ _ _)
      | (with_reducible exact gcra_May.mono _ _ _ _ _ _ _ _ _)
      | (with_reducible exact sandglasslaw10_live.mono _)
      | (with_reducible exact sandglassref10_May.mono _ _ _ _ _ _ _ _ _)
      | (with_reducible exact LeO.refl _)
      | (with_reducible exact LeO.none _)
      | (with_reducible refine LeO.ite ?_ ?_)
      | (with_reducible refine LeO.bind ?_ (fun _ => ?_))
      | exact ih0 _ _ _ _ _ _ _ _ _ _ _
      | exact ih1 _ _ _ _ _ _ _ _ _ _ _ _ _ _
      | exact ih2 _ _ _ _ _ _ _ _ _ _ _ _ _
      | exact ih3 _ _ _ _ _ _ _ _ _ _ _ _ _ _
      | exact ih4 _ _ _ _ _ _ _ _ _ _ _ _ _ _
      | exact gcra_Ask.mono _ _ _ _ _ _ _ _ _ _ _
      | exact gcra_Ends.mono _ _ _ _ _ _ _ _ _
      | exact gcra_Level.mono _ _ _ _ _ _ _ _ _ _
      | exact gcra_May.mono _ _ _ _ _ _ _ _ _
      | exact sandglasslaw10_live.mono _
      | exact sandglassref10_May.mono _ _ _ _ _ _ _ _ _
      | exact LeO.none _
      | refine LeO.ite ?_ ?_
      | refine LeO.bind ?_ (fun _ => ?_)
    · intro y0 y1 y2 y3 y4 y5 y6 y7 y8 y9 y10 y11 y12
      unfold sandglasslaw10_GcraMay.j2
      repeat' first
      | (with_reducible exact ih0 _ _ _ _ _ _ _ _ _ _ _)
      | (with_reducible exact ih1 _ _ _ _ _ _ _ _ _ _ _ _ _ _)
      | (with_reducible exact ih2 _ _ _ _ _ _ _ _ _ _ _ _ _)
      | (with_reducible exact ih3 _ _ _ _ _ _ _ _ _ _ _ _ _ _)
      | (with_reducible exact ih4 _ _ _ _ _ _ _ _ _ _ _ _ _ _)
      | (with_reducible exact gcra_Ask.mono _ _ _ _ _ _ _ _ _ _ _)
      | (with_reducible exact gcra_Ends.mono _ _ _ _ _ _ _ _ _)
      | (with_reducible exact gcra_Level.mono _ _ _ _ _ _ _ _ _ _)
      | (with_reducible exact gcra_May.mono _ _ _ _ _ _ _ _ _)
      | (with_reducible exact sandglasslaw10_live.mono _)
      | (with_reducible exact sandglassref10_May.mono _ _ _ _ _ _ _ _ _)
      | (with_reducible exact LeO.refl _)
      | (with_reducible exact LeO.none _)
      | (with_reducible refine LeO.ite ?_ ?_)
      | (with_reducible refine LeO.bind ?_ (fun _ => ?_))
      | exact ih0 _ _ _ _ _ _ _ _ _ _ _
      | exact ih1 _ _ _ _ _ _ _ _ _ _ _ _ _ _
      | exact ih2 _ _ _ _ _ _ _ _ _ _ _ _ _
      | exact ih3 _ _ _ _ _ _ _ _ _ _ _ _ _ _
      | exact ih4 _ _ _ _ _ _ _ _ _ _ _ _ _ _
      | exact gcra_Ask.mono _ _ _ _ _ _ _ _ _ _ _
      | exact gcra_Ends.mono _ _ _ _ _ _ _ _ _
      | exact gcra_Level.mono _ _ _ _ _ _ _ _ _ _
      | exact gcra_May.mono _ _ _ _ _ _ _ _ _
      | exact sandglasslaw10_live.mono _
      | exact sandglassref10_May.mono _ _ _ _ _ _ _ _ _
      | exact LeO.none _
      | refine LeO.ite ?_ ?_
      | refine LeO.bind ?_ (fun _ => ?_)
    · intro y0 y1 y2 y3 y4 y5 y6 y7 y8 y9 y10 y11 y12 y13
      unfold sandglasslaw10_GcraMay.j3
      repeat' first
      | (with_reducible exact ih0 _ _ _ _ _ _ _ _ _ _ _)
      | (with_reducible exact ih1 _ _ _ _ _ _ _ _ _ _ _ _ _ _)
      | (with_reducible exact ih2 _ _ _ _ _ _ _ _ _ _ _ _ _)
      | (with_reducible exact ih3 _ _ _ _ _ _ _ _ _ _ _ _ _ _)
      | (with_reducible exact ih4 _ _ _ _ _ _ _ _ _ _ _ _ _ _)
      | (with_reducible exact gcra_Ask.mono _ _ _ _ _ _ _ _ _ _ _)
      | (with_reducible exact gcra_Ends.mono _ _ _ _ _ _ _ _ _)
      | (with_reducible exact gcra_Level.mono _ _ _ _ _ _ _ _ _ _)
      | (with_reducible exact gcra_May.mono _ _ _ _ _ _ _ _ _)
      | (with_reducible exact sandglasslaw10_live.mono _)
      | (with_reducible exact sandglassref10_May.mono _ _ _ _ _ _ _ _ _)
      | (with_reducible exact LeO.refl _)
      | (with_reducible exact LeO.none _)
      | (with_reducible refine LeO.ite ?_ ?_)
      | (with_reducible refine LeO.bind ?_ (fun _ => ?_))
      | exact ih0 _ _ _ _ _ _ _ _ _ _ _
      | exact ih1 _ _ _ _ _ _ _ _ _ _ _ _ _ _
      | exact ih2 _ _ _ _ _ _ _ _ _ _ _ _ _
      | exact ih3 _ _ _ _ _ _ _ _ _ _ _ _ _ _
      | exact ih4 _ _ _ _ _ _ _ _ _ _ _ _ _ _
      | exact gcra_Ask.mono _ _ _ _ _ _ _ _ _ _ _
      | exact gcra_Ends.mono _ _ _ _ _ _ _ _ _
      | exact gcra_Level.mono _ _ _ _ _ _ _ _ _ _
      | exact gcra_May.mono _ _ _ _ _ _ _ _ _
      | exact sandglasslaw10_live.mono _
      | exact sandglassref10_May.mono _ _ _ _ _ _ _ _ _
      | exact LeO.none _
      | refine LeO.ite ?_ ?_
      | refine LeO.bind ?_ (fun _ => ?_)
    · intro y0 y1 y2 y3 y4 y5 y6 y7 y8 y9 y10 y11 y12 y13
      unfold sandglasslaw10_GcraMay.j4
      repeat' first
      | (with_reducible exact ih0 _ _ _ _ _ _ _ _ _ _ _)
      | (with_reducible exact ih1 _ _ _ _ _ _ _ _ _ _ _ _ _ _)
      | (with_reducible exact ih2 _ _ _ _ _ _ _ _ _ _ _ _ _)
      | (with_reducible exact ih3 _ _ _ _ _ _ _ _ _ _ _ _ _ _)
      | (with_reducible exact ih4 _ _ _ _ _ _ _ _ _ _ _ _ _ _)
      | (with_reducible exact gcra_Ask.mono _ _ _ _ _ _ _ _ _ _ _)
      | (with_reducible exact gcra_Ends.mono _ _ _ _ _ _ _ _ _)
      | (with_reducible exact gcra_Level.mono _ _ _ _ _ _ _ _ _ _)
      | (with_reducible exact gcra_May.mono _ _ _ _ _ _ _ _ _)
      | (with_reducible exact sandglasslaw10_live.mono _)
      | (with_reducible exact sandglassref10_May.mono _ _ _ _ _ _ _ _ _)
      | (with_reducible exact LeO.refl _)
      | (with_reducible exact LeO.none _)
      | (with_reducible refine LeO.ite ?_ ?_)
      | (with_reducible refine LeO.bind ?_ (fun _ => ?_))
      | exact ih0 _ _ _ _ _ _ _ _ _ _ _
      | exact ih1 _ _ _ _ _ _ _ _ _ _ _ _ _ _
      | exact ih2 _ _ _ _ _ _ _ _ _ _ _ _ _
      | exact ih3 _ _ _ _ _ _ _ _ _ _ _ _ _ _
      | exact ih4 _ _ _ _ _ _ _ _ _ _ _ _ _ _
      | exact gcra_Ask.mono _ _ _ _ _ _ _ _ _ _ _
      | exact gcra_Ends.mono _ _ _ _ _ _ _ _ _
      | exact gcra_Level.mono _ _ _ _ _ _ _ _ _ _
      | exact gcra_May.mono _ _ _ _ _ _ _ _ _
      | exact sandglasslaw10_live.mono _
      | exact sandglassref10_May.mono _ _ _ _ _ _ _ _ _
      | exact LeO.none _
      | refine LeO.ite ?_ ?_
      | refine LeO.bind ?_ (fun _ => ?_)
theorem sandglasslaw10_GcraMay.mono : ∀ a0 a1 a2 a3 a4 a5 a6 a7 a8 a9 k, LeO (sandglasslaw10_GcraMay.f k a0 a1 a2 a3 a4 a5 a6 a7 a8 a9) (sandglasslaw10_GcraMay.f (k + 1) a0 a1 a2 a3 a4 a5 a6 a7 a8 a9) := by
  intro a0 a1 a2 a3 a4 a5 a6 a7 a8 a9 k
  obtain ⟨ih0, ih1, ih2, ih3, ih4⟩ := sandglasslaw10_GcraMay.mono_l k
  unfold sandglasslaw10_GcraMay.f
  repeat' first
      | (with_reducible exact ih0 _ _ _ _ _ _ _ _ _ _ _)
      | (with_reducible exact ih1 _ _ _ _ _ _ _ _ _ _ _ _ _ _)
      | (with_reducible exact ih2 _ _ _ _ _ _ _ _ _ _ _ _ _)
      | (with_reducible exact ih3 _ _ _ _ _ _ _ _ _ _ _ _ _ _)
      | (with_reducible exact ih4 _ _ _ _ _ _ _ _ _ _ _ _ _ _)
      | (with_reducible exact gcra_Ask.mono _ _ _ _ _ _ _ _ _ _ _)
      | (with_reducible exact gcra_Ends.mono _ _ _ _ _ _ _ _ _)
      | (with_reducible exact gcra_Level.mono _ _ _ _ _ _ _ _ _ _)
      | (with_reducible exact gcra_May.mono _ _ _ _ _ _ _ _ _)
      | (with_reducible exact sandglasslaw10_live.mono _)
      | (with_reducible exact sandglassref10_May.mono _ _ _ _ _ _ _ _ _)
      | (with_reducible exact LeO.refl _)
      | (with_reducible exact LeO.none _)
      | (with_reducible refine LeO.ite ?_ ?_)
      | (with_reducible refine LeO.bind ?_ (fun _ => ?_))
      | exact ih0 _ _ _ _ _ _ _ _ _ _ _
      | exact ih1 _ _ _ _ _ _ _ _ _ _ _ _ _ _
      | exact ih2 _ _ _ _ _ _ _ _ _ _ _ _ _
      | exact ih3 _ _ _ _ _ _ _ _ _ _ _ _ _ _
      | exact ih4 _ _ _ _ _ _ _ _ _ _ _ _ _ _
      | exact gcra_Ask.mono _ _ _ _ _ _ _ _ _ _ _
      | exact gcra_Ends.mono _ _ _ _ _ _ _ _ _
      | exact gcra_Level.mono _ _ _ _ _ _ _ _ _ _
      | exact gcra_May.mono _ _ _ _ _ _ _ _ _
      | exact sandglasslaw10_live.mono _
      | exact sandglassref10_May.mono _ _ _ _ _ _ _ _ _
      | exact LeO.none _
      | refine LeO.ite ?_ ?_
      | refine LeO.bind ?_ (fun _ => ?_)
def sandglasslaw10_GcraMay.T17 : Bool × List (List Nat × List Nat) := (true, [([], []), ([0], [0]), ([1], [1]), ([2], [2]), ([3], [3]), ([3], [3]), ([4, 5, 3, 3], [3, 4, 5]), ([3], [3]), ([7, 3], [3, 7]), ([3], [3]), ([9, 3], [3, 9]), ([8, 10, 3], [3, 8, 10]), ([6, 11, 3], [3, 6, 11]), ([3, 12], [3, 12]), ([13, 6], [13]), ([14, 14], [14]), ([14, 15], [14, 15]), ([16, 15, 0, 1, 2, 3, 4, 5, 6, 7, 8, 9, 10, 11, 12, 13, 14, 15, 16], [16])])
def sandglasslaw10_GcraMay.B17 : List Nat := [0, 1, 3, 7, 15, 15, 63, 15, 143, 15, 527, 1935, 4095, 8191, 16383, 32767, 65535, 131071]
theorem sandglasslaw10_GcraMay.tab17 : rtab .any (opsOf Try.f4 17) = sandglasslaw10_GcraMay.T17 := by kernel_rfl
theorem sandglasslaw10_GcraMay.bits17 : waitsOk sandglasslaw10_GcraMay.T17.2 sandglasslaw10_GcraMay.B17 = true := by kernel_rfl
end Go.Proofs.Ytpeljhmbaibjcaa.Q
