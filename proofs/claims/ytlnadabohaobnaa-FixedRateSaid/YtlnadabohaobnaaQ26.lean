-- Laid by wip/tools/hprint.py, a program of this repo, over the kit's print; not a text of print.sh.
import Derived.Test.YtlnadabohaobnaaQ0
import Derived.Test.YtlnadabohaobnaaQ12
import Derived.Test.YtlnadabohaobnaaQ14
import Derived.Test.YtlnadabohaobnaaQ15
import Derived.Test.YtlnadabohaobnaaQ19
namespace Go.Proofs.Ytlnadabohaobnaa.Q
open Go.RowKit Go.Proofs.Ytlnadabohaobnaa.Zip Go.Proofs.YtlnadabohaobnaaW.PrintWords Go.Proofs.YtlnadabohaobnaaW.PrintLast Go.Proofs.YtlnadabohaobnaaW.PrintMore
attribute [local go_sem] max2_int min2_int max_two min_two max_three min_three max_four min_four   -- for this text's walks alone
set_option linter.unusedVariables false
set_option linter.unusedSimpArgs false

/-! ### sandglasslaw11_FixedRate: function 6 -/
mutual
def sandglasslaw11_FixedRate.j0 : Nat → List (S45) → Bool → Int → Int → Int → Int → Option (Bool)
  | 0, _, _, _, _, _, _ => none
  | k + 1, x1, x23, x390000, x390001, x390002, x390003 => if x23 = true then ((sandglasslaw11_live.f k).bind fun t391 => (some t391)) else (sandglasslaw11_FixedRate.l0 k x1 0 0 0 x390000 x390001 x390002 x390003 0 0 ([] : List Int) ([] : List (S53)))
def sandglasslaw11_FixedRate.l0 : Nat → List (S45) → Int → Int → Int → Int → Int → Int → Int → Int → Int → List Int → List (S53) → Option (Bool)
  | 0, _, _, _, _, _, _, _, _, _, _, _, _ => none
  | k + 1, x1, x6, x7, x8, x390000, x390001, x390002, x390003, x393000, x393001, x393002, x393003 => if x8 < (x1.length : Int) then (if 0 ≤ x8 then (if ((rd_T45 x1 x8).f0) < 0 then (sandglasslaw11_FixedRate.j2 k x1 x6 x7 x8 true x390000 x390001 x390002 x390003 x393000 x393001 x393002 x393003) else (if ((rd_T45 x1 x8).f0) > 1048576 then (sandglasslaw11_FixedRate.j2 k x1 x6 x7 x8 true x390000 x390001 x390002 x390003 x393000 x393001 x393002 x393003) else ((sandglassref09_Weighs.f ((rd_T45 x1 x8).f1)).bind fun t396 => (sandglasslaw11_FixedRate.j2 k x1 x6 x7 x8 (!t396) x390000 x390001 x390002 x390003 x393000 x393001 x393002 x393003)))) else (none)) else ((sandglasslaw11_live.f k).bind fun t417 => (some t417))
def sandglasslaw11_FixedRate.j2 : Nat → List (S45) → Int → Int → Int → Bool → Int → Int → Int → Int → Int → Int → List Int → List (S53) → Option (Bool)
  | 0, _, _, _, _, _, _, _, _, _, _, _, _, _ => none
  | k + 1, x1, x6, x7, x8, x54, x390000, x390001, x390002, x390003, x393000, x393001, x393002, x393003 => if x54 = true then ((sandglasslaw11_live.f k).bind fun t397 => (some t397)) else (if 0 ≤ x8 then (if x8 < (x1.length : Int) then (if x390002 = 0 then (none) else (if (wrap64 (Int.tdiv (wrap64 (x6 + ((rd_T45 x1 x8).f0))) x390002)) = (wrap64 (Int.tdiv x6 x390002)) then (sandglasslaw11_FixedRate.j3 k x1 x6 x7 x8 x390000 x390001 x390002 x390003 x393000 x393001 x393002 x393003) else (sandglasslaw11_FixedRate.j3 k x1 x6 0 x8 x390000 x390001 x390002 x390003 x393000 x393001 x393002 x393003))) else (none)) else (none))
def sandglasslaw11_FixedRate.j3 : Nat → List (S45) → Int → Int → Int → Int → Int → Int → Int → Int → Int → List Int → List (S53) → Option (Bool)
  | 0, _, _, _, _, _, _, _, _, _, _, _, _ => none
  | k + 1, x1, x6, x7, x8, x390000, x390001, x390002, x390003, x393000, x393001, x393002, x393003 => if 0 ≤ x8 then (if x8 < (x1.length : Int) then ((fixed_Ask.f k x390000 x390001 x390002 x390003 x393000 x393001 x393002 x393003 (wrap64 (x6 + ((rd_T45 x1 x8).f0))) ((rd_T45 x1 x8).f1)).bind fun bt401 => (if (bt401.2.2.2.2.1 != (decide ((wrap64 (x7 + ((rd_T45 x1 x8).f1))) ≤ x390001))) = true then (none) else (if bt401.2.2.2.2.1 = true then (sandglasslaw11_FixedRate.j4 k x1 (wrap64 (x6 + ((rd_T45 x1 x8).f0))) (wrap64 (x7 + ((rd_T45 x1 x8).f1))) x8 x390000 x390001 x390002 x390003 bt401.1 bt401.2.1 bt401.2.2.1 bt401.2.2.2.1 bt401.2.2.2.2.1 bt401.2.2.2.2.2.1 bt401.2.2.2.2.2.2.1 bt401.2.2.2.2.2.2.2) else (sandglasslaw11_FixedRate.j4 k x1 (wrap64 (x6 + ((rd_T45 x1 x8).f0))) x7 x8 x390000 x390001 x390002 x390003 bt401.1 bt401.2.1 bt401.2.2.1 bt401.2.2.2.1 bt401.2.2.2.2.1 bt401.2.2.2.2.2.1 bt401.2.2.2.2.2.2.1 bt401.2.2.2.2.2.2.2)))) else (none)) else (none)
def sandglasslaw11_FixedRate.j4 : Nat → List (S45) → Int → Int → Int → Int → Int → Int → Int → Int → Int → List Int → List (S53) → Bool → Int → Int → Int → Option (Bool)
  | 0, _, _, _, _, _, _, _, _, _, _, _, _, _, _, _, _ => none
  | k + 1, x1, x6, x7, x8, x390000, x390001, x390002, x390003, x393000, x393001, x393002, x393003, x415000, x415001, x415002, x415003 => if x7 > x390001 then (sandglasslaw11_FixedRate.j5 k x1 x6 x7 x8 true x390000 x390001 x390002 x390003 x393000 x393001 x393002 x393003) else (sandglasslaw11_FixedRate.j5 k x1 x6 x7 x8 (x415001 != (wrap64 (x390001 - x7))) x390000 x390001 x390002 x390003 x393000 x393001 x393002 x393003)
def sandglasslaw11_FixedRate.j5 : Nat → List (S45) → Int → Int → Int → Bool → Int → Int → Int → Int → Int → Int → List Int → List (S53) → Option (Bool)
  | 0, _, _, _, _, _, _, _, _, _, _, _, _, _ => none
  | k + 1, x1, x6, x7, x8, x125, x390000, x390001, x390002, x390003, x393000, x393001, x393002, x393003 => if x125 = true then (none) else (sandglasslaw11_FixedRate.l0 k x1 x6 x7 (wrap64 (x8 + 1)) x390000 x390001 x390002 x390003 x393000 x393001 x393002 x393003)
end
def sandglasslaw11_FixedRate.f (k : Nat) (a0_0 : Int) (a0_1 : Int) (a0_2 : Int) (a0_3 : Int) (l1 : List (S45)) : Option (Bool) := if (l1.length : Int) > 40 then (sandglasslaw11_FixedRate.j0 k l1 true a0_0 a0_1 a0_2 a0_3) else ((sandglassref09_Check.f k a0_0 a0_1 a0_2 a0_3).bind fun t390 => (if t390 = 0 then (sandglasslaw11_FixedRate.j0 k l1 (a0_0 != 2) a0_0 a0_1 a0_2 a0_3) else (sandglasslaw11_FixedRate.j0 k l1 true a0_0 a0_1 a0_2 a0_3)))
theorem sandglasslaw11_FixedRate.mono_l : ∀ k, (∀ y0 y1 y2 y3 y4 y5, LeO (sandglasslaw11_FixedRate.j0 k y0 y1 y2 y3 y4 y5) (sandglasslaw11_FixedRate.j0 (k + 1) y0 y1 y2 y3 y4 y5)) ∧ (∀ y0 y1 y2 y3 y4 y5 y6 y7 y8 y9 y10 y11, LeO (sandglasslaw11_FixedRate.l0 k y0 y1 y2 y3 y4 y5 y6 y7 y8 y9 y10 y11) (sandglasslaw11_FixedRate.l0 (k + 1) y0 y1 y2 y3 y4 y5 y6 y7 y8 y9 y10 y11)) ∧ (∀ y0 y1 y2 y3 y4 y5 y6 y7 y8 y9 y10 y11 y12, LeO (sandglasslaw11_FixedRate.j2 k y0 y1 y2 y3 y4 y5 y6 y7 y8 y9 y10 y11 y12) (sandglasslaw11_FixedRate.j2 (k + 1) y0 y1 y2 y3 y4 y5 y6 y7 y8 y9 y10 y11 y12)) ∧ (∀ y0 y1 y2 y3 y4 y5 y6 y7 y8 y9 y10 y11, LeO (sandglasslaw11_FixedRate.j3 k y0 y1 y2 y3 y4 y5 y6 y7 y8 y9 y10 y11) (sandglasslaw11_FixedRate.j3 (k + 1) y0 y1 y2 y3 y4 y5 y6 y7 y8 y9 y10 y11)) ∧ (∀ y0 y1 y2 y3 y4 y5 y6 y7 y8 y9 y10 y11 y12 y13 y14 y15, LeO (sandglasslaw11_FixedRate.j4 k y0 y1 y2 y3 y4 y5 y6 y7 y8 y9 y10 y11 y12 y13 y14 y15) (sandglasslaw11_FixedRate.j4 (k + 1) y0 y1 y2 y3 y4 y5 y6 y7 y8 y9 y10 y11 y12 y13 y14 y15)) ∧ (∀ y0 y1 y2 y3 y4 y5 y6 y7 y8 y9 y10 y11 y12, LeO (sandglasslaw11_FixedRate.j5 k y0 y1 y2 y3 y4 y5 y6 y7 y8 y9 y10 y11 y12) (sandglasslaw11_FixedRate.j5 (k + 1) y0 y1 y2 y3 y4 y5 y6 y7 y8 y9 y10 y11 y12))
  | 0 => ⟨fun _ _ _ _ _ _ r h => by simp [sandglasslaw11_FixedRate.j0] at h, fun _ _ _ _ _ _ _ _ _ _ _ _ r h => by simp [sandglasslaw11_FixedRate.l0] at h, fun _ _ _ _ _ _ _ _ _ _ _ _ _ r h => by simp [sandglasslaw11_FixedRate.j2] at h, fun _ _ _ _ _ _ _ _ _ _ _ _ r h => by simp [sandglasslaw11_FixedRate.j3] at h, fun _ _ _ _ _ _ _ _ _ _ _ _ _ _ _ _ r h => by simp [sandglasslaw11_FixedRate.j4] at h, fun _ _ _ _ _ _ _ _ _ _ _ _ _ r h => by simp [sandglasslaw11_FixedRate.j5] at h⟩
  | k + 1 => by
    obtain ⟨ih0, ih1, ih2, ih3, ih4, ih5⟩ := sandglasslaw11_FixedRate.mono_l k
    refine ⟨?_, ?_, ?_, ?_, ?_, ?_⟩
    · intro y0 y1 y2 y3 y4 y5
      unfold sandglasslaw11_FixedRate.j0
      repeat' first
      | (with_reducible exact ih0 _ _ _ _ _ _)
      | (with_reducible exact ih1 _ _ _ _ _ _ _ _ _ _ _ _)
      | (with_reducible exact ih2 _ _ _ _ _ _ _ _ _ _ _ _ _)
      | (with_reducible exact ih3 _ _ _ _ _ _ _ _ _ _ _ _)
      | (with_reducible exact ih4 _ _ _ _ _ _ _ _ _ _ _ _ _ _ _ _)
      | (with_reducible exact ih5 _ _ _ _ _ _ _ _ _ _ _ _ _)
      | (with_reducible exact fixed_Ask.mono _ _ _ _ _ _ _ _ _ _ _)
      | (with_reducible exact sandglasslaw11_live.mono _)
      | (with_reducible exact sandglassref09_Check.mono _ _ _ _ _)
      | (with_reducible exact LeO.refl _)
      | (with_reducible exact LeO.none _)
      | (with_reducible refine LeO.ite ?_ ?_)
      | (with_reducible refine LeO.bind ?_ (fun _ => ?_))
      | exact ih0 _ _ _ _ _ _
      | exact ih1 _ _ _ _ _ _ _ _ _ _ _ _
      | exact ih2 _ _ _ _ _ _ _ _ _ _ _ _ _
      | exact ih3 _ _ _ _ _ _ _ _ _ _ _ _
      | exact ih4 _ _ _ _ _ _ _ _ _ _ _ _ _ _ _ _
      | exact ih5 _ _ _ _ _ _ _ _ _ _ _ _ _
      | exact fixed_Ask.mono _ _ _ _ _ _ _ _ _ _ _
      | exact sandglasslaw11_live.mono _
      | exact sandglassref09_Check.mono _ _ _ _ _
      | exact LeO.none _
      | refine LeO.ite ?_ ?_
      | refine LeO.bind ?_ (fun _ => ?_)
    · intro y0 y1 y2 y3 y4 y5 y6 y7 y8 y9 y10 y11
      unfold sandglasslaw11_FixedRate.l0
      repeat' first
      | (with_reducible exact ih0 _ _ _ _ _ _)
      | (with_reducible exact ih1 _ _ _ _ _ _ _ _ _ _ _ _)
      | (with_reducible exact ih2 _ _ _ _ _ _ _ _ _ _ _ _ _)
      | (with_reducible exact ih3 _ _ _ _ _ _ _ _ _ _ _ _)
      | (with_reducible exact ih4 _ _ _ _ _ _ _ _ _ _ _ _ _ _ _ _)
      | (with_reducible exact ih5 _ _ _ _ _ _ _ _ _ _ _ _ _)
      | (with_reducible exact fixed_Ask.mono _ _ _ _ _ _ _ _ _ _ _)
      | (with_reducible exact sandglasslaw11_live.mono _)
      | (with_reducible exact sandglassref09_Check.mono _ _ _ _ _)
      | (with_reducible exact LeO.refl _)
      | (with_reducible exact LeO.none _)
      | (with_reducible refine LeO.ite ?_ ?_)
      | (with_reducible refine LeO.bind ?_ (fun _ => ?_))
      | exact ih0 _ _ _ _ _ _
      | exact ih1 _ _ _ _ _ _ _ _ _ _ _ _
      | exact ih2 _ _ _ _ _ _ _ _ _ _ _ _ _
      | exact ih3 _ _ _ _ _ _ _ _ _ _ _ _
      | exact ih4 _ _ _ _ _ _ _ _ _ _ _ _ _ _ _ _
      | exact ih5 _ _ _ _ _ _ _ _ _ _ _ _ _
      | exact fixed_Ask.mono _ _ _ _ _ _ _ _ _ _ _
      | exact sandglasslaw11_live.mono _
      | exact sandglassref09_Check.mono _ _ _ _ _
      | exact LeO.none _
      | refine LeO.ite ?_ ?_
      | refine LeO.bind ?_ (fun _ => ?_)
    · intro y0 y1 y2 y3 y4 y5 y6 y7 y8 y9 y10 y11 y12
      unfold sandglasslaw11_FixedRate.j2
      repeat' first
      | (with_reducible exact ih0 _ _ _ _ _ _)
      | (with_reducible exact ih1 _ _ _ _ _ _ _ _ _ _ _ _)
      | (with_reducible exact ih2 _ _ _ _ _ _ _ _ _ _ _ _ _)
      | (with_reducible exact ih3 _ _ _ _ _ _ _ _ _ _ _ _)
      | (with_reducible exact ih4 _ _ _ _ _ _ _ _ _ _ _ _ _ _ _ _)
      | (with_reducible exact ih5 _ _ _ _ _ _ _ _ _ _ _ _ _)
      | (with_reducible exact fixed_Ask.mono _ _ _ _ _ _ _ _ _ _ _)
      | (with_reducible exact sandglasslaw11_live.mono _)
      | (with_reducible exact sandglassref09_Check.mono _ _ _ _ _)
      | (with_reducible exact LeO.refl _)
      | (with_reducible exact LeO.none _)
      | (with_reducible refine LeO.ite ?_ ?_)
      | (with_reducible refine LeO.bind ?_ (fun _ => ?_))
      | exact ih0 _ _ _ _ _ _
      | exact ih1 _ _ _ _ _ _ _ _ _ _ _ _
      | exact ih2 _ _ _ _ _ _ _ _ _ _ _ _ _
      | exact ih3 _ _ _ _ _ _ _ _ _ _ _ _
      | exact ih4 _ _ _ _ _ _ _ _ _ _ _ _ _ _ _ _
      | exact ih5 _ _ _ _ _ _ _ _ _ _ _ _ _
      | exact fixed_Ask.mono _ _ _ _ _ _ _ _ _ _ _
      | exact sandglasslaw11_live.mono _
      | exact sandglassref09_Check.mono _ _ _ _ _
      | exact LeO.none _
      | refine LeO.ite ?_ ?_
      | refine LeO.bind ?_ (fun _ => ?_)
    · intro y0 y1 y2 y3 y4 y5 y6 y7 y8 y9 y10 y11
      unfold sandglasslaw11_FixedRate.j3
      repeat' first
      | (with_reducible exact ih0 _ _ _ _ _ _)
      | (with_reducible exact ih1 _ _ _ _ _ _ _ _ _ _ _ _)
      | (with_reducible exact ih2 _ _ _ _ _ _ _ _ _ _ _ _ _)
      | (with_reducible exact ih3 _ _ _ _ _ _ _ _ _ _ _ _)
      | (with_reducible exact ih4 _ _ _ _ _ _ _ _ _ _ _ _ _ _ _ _)
      | (with_reducible exact ih5 _ _ _ _ _ _ _ _ _ _ _ _ _)
      | (with_reducible exact fixed_Ask.mono _ _ _ _ _ _ _ _ _ _ _)
      | (with_reducible exact sandglasslaw11_live.mono _)
      | (with_reducible exact sandglassref09_Check.mono _ _ _ _ _)
      | (with_reducible exact LeO.refl _)
      | (with_reducible exact LeO.none _)
      | (with_reducible refine LeO.ite ?_ ?_)
      | (with_reducible refine LeO.bind ?_ (fun _ => ?_))
      | exact ih0 _ _ _ _ _ _
      | exact ih1 _ _ _ _ _ _ _ _ _ _ _ _
      | exact ih2 _ _ _ _ _ _ _ _ _ _ _ _ _
      | exact ih3 _ _ _ _ _ _ _ _ _ _ _ _
      | exact ih4 _ _ _ _ _ _ _ _ _ _ _ _ _ _ _ _
      | exact ih5 _ _ _ _ _ _ _ _ _ _ _ _ _
      | exact fixed_Ask.mono _ _ _ _ _ _ _ _ _ _ _
      | exact sandglasslaw11_live.mono _
      | exact sandglassref09_Check.mono _ _ _ _ _
      | exact LeO.none _
      | refine LeO.ite ?_ ?_
      | refine LeO.bind ?_ (fun _ => ?_)
    · intro y0 y1 y2 y3 y4 y5 y6 y7 y8 y9 y10 y11 y12 y13 y14 y15
      unfold sandglasslaw11_FixedRate.j4
      repeat' first
      | (with_reducible exact ih0 _ _ _ _ _ _)
      | (with_reducible exact ih1 _ _ _ _ _ _ _ _ _ _ _ _)
      | (with_reducible exact ih2 _ _ _ _ _ _ _ _ _ _ _ _ _)
      | (with_reducible exact ih3 _ _ _ _ _ _ _ _ _ _ _ _)
      | (with_reducible exact ih4 _ _ _ _ _ _ _ _ _ _ _ _ _ _ _ _)
      | (with_reducible exact ih5 _ _ _ _ _ _ _ _ _ _ _ _ _)
      | (with_reducible exact fixed_Ask.mono _ _ _ _ _ _ _ _ _ _ _)
      | (with_reducible exact sandglasslaw11_live.mono _)
      | (with_reducible exact sandglassref09_Check.mono _ _ _ _ _)
      | (with_reducible exact LeO.refl _)
      | (with_reducible exact LeO.none _)
      | (with_reducible refine LeO.ite ?_ ?_)
      | (with_reducible refine LeO.bind ?_ (fun _ => ?_))
      | exact ih0 _ _ _ _ _ _
      | exact ih1 _ _ _ _ _ _ _ _ _ _ _ _
      | exact ih2 _ _ _ _ _ _ _ _ _ _ _ _ _
      | exact ih3 _ _ _ _ _ _ _ _ _ _ _ _
      | exact ih4 _ _ _ _ _ _ _ _ _ _ _ _ _ _ _ _
      | exact ih5 _ _ _ _ _ _ _ _ _ _ _ _ _
      | exact fixed_Ask.mono _ _ _ _ _ _ _ _ _ _ _
      | exact sandglasslaw11_live.mono _
      | exact sandglassref09_Check.mono _ _ _ _ _
      | exact LeO.none _
      | refine LeO.ite ?_ ?_
      | refine LeO.bind ?_ (fun _ => ?_)
    · intro y0 y1 y2 y3 y4 y5 y6 y7 y8 y9 y10 y11 y12
      unfold sandglasslaw11_FixedRate.j5
      repeat' first
      | (with_reducible exact ih0 _ _ _ _ _ _)
      | (with_reducible exact ih1 _ _ _ _ _ _ _ _ _ _ _ _)
      | (with_reducible exact ih2 _ _ _ _ _ _ _ _ _ _ _ _ _)
      | (with_reducible exact ih3 _ _ _ _ _ _ _ _ _ _ _ _)
      | (with_reducible exact ih4 _ _ _ _ _ _ _ _ _ _ _ _ _ _ _ _)
      | (with_reducible exact ih5 _ _ _ _ _ _ _ _ _ _ _ _ _)
      | (with_reducible exact fixed_Ask.mono _ _ _ _ _ _ _ _ _ _ _)
      | (with_reducible exact sandglasslaw11_live.mono _)
      | (with_reducible exact sandglassref09_Check.mono _ _ _ _ _)
      | (with_reducible exact LeO.refl _)
      | (with_reducible exact LeO.none _)
      | (with_reducible refine LeO.ite ?_ ?_)
      | (with_reducible refine LeO.bind ?_ (fun _ => ?_))
      | exact ih0 _ _ _ _ _ _
      | exact ih1 _ _ _ _ _ _ _ _ _ _ _ _
      | exact ih2 _ _ _ _ _ _ _ _ _ _ _ _ _
      | exact ih3 _ _ _ _ _ _ _ _ _ _ _ _
      | exact ih4 _ _ _ _ _ _ _ _ _ _ _ _ _ _ _ _
      | exact ih5 _ _ _ _ _ _ _ _ _ _ _ _ _
      | exact fixed_Ask.mono _ _ _ _ _ _ _ _ _ _ _
      | exact sandglasslaw11_live.mono _
      | exact sandglassref09_Check.mono _ _ _ _ _
      | exact LeO.none _
      | refine LeO.ite ?_ ?_
      | refine LeO.bind ?_ (fun _ => ?_)
theorem sandglasslaw11_FixedRate.mono : ∀ a0 a1 a2 a3 a4 k, LeO (sandglasslaw11_FixedRate.f k a0 a1 a2 a3 a4) (sandglasslaw11_FixedRate.f (k + 1) a0 a1 a2 a3 a4) := by
  intro a0 a1 a2 a3 a4 k
  obtain ⟨ih0, ih1, ih2, ih3, ih4, ih5⟩ := sandglasslaw11_FixedRate.mono_l k
  unfold sandglasslaw11_FixedRate.f
  repeat' first
      | (with_reducible exact ih0 _ _ _ _ _ _)
      | (with_reducible exact ih1 _ _ _ _ _ _ _ _ _ _ _ _)
      | (with_reducible exact ih2 _ _ _ _ _ _ _ _ _ _ _ _ _)
      | (with_reducible exact ih3 _ _ _ _ _ _ _ _ _ _ _ _)
      | (with_reducible exact ih4 _ _ _ _ _ _ _ _ _ _ _ _ _ _ _ _)
      | (with_reducible exact ih5 _ _ _ _ _ _ _ _ _ _ _ _ _)
      | (with_reducible exact fixed_Ask.mono _ _ _ _ _ _ _ _ _ _ _)
      | (with_reducible exact sandglasslaw11_live.mono _)
      | (with_reducible exact sandglassref09_Check.mono _ _ _ _ _)
      | (with_reducible exact LeO.refl _)
      | (with_reducible exact LeO.none _)
      | (with_reducible refine LeO.ite ?_ ?_)
      | (with_reducible refine LeO.bind ?_ (fun _ => ?_))
      | exact ih0 _ _ _ _ _ _
      | exact ih1 _ _ _ _ _ _ _ _ _ _ _ _
      | exact ih2 _ _ _ _ _ _ _ _ _ _ _ _ _
      | exact ih3 _ _ _ _ _ _ _ _ _ _ _ _
      | exact ih4 _ _ _ _ _ _ _ _ _ _ _ _ _ _ _ _
      | exact ih5 _ _ _ _ _ _ _ _ _ _ _ _ _
      | exact fixed_Ask.mono _ _ _ _ _ _ _ _ _ _ _
      | exact sandglasslaw11_live.mono _
      | exact sandglassref09_Check.mono _ _ _ _ _
      | exact LeO.none _
      | refine LeO.ite ?_ ?_
      | refine LeO.bind ?_ (fun _ => ?_)
def sandglasslaw11_FixedRate.T11 : Bool × List (List Nat × List Nat) := (true, [([], []), ([], []), ([], []), ([1, 2], [1, 2]), ([3], [3]), ([4], [4]), ([0, 5], [0, 5]), ([], []), ([7], [7]), ([6, 8], [6, 8]), ([], []), ([], []), ([11], [11]), ([10, 12], [10, 12]), ([9, 13], [9, 13])])
def sandglasslaw11_FixedRate.B11 : List Nat := [0, 0, 0, 6, 14, 30, 63, 0, 128, 511, 0, 0, 2048, 7168, 16383]
theorem sandglasslaw11_FixedRate.tab11 : rtab .any (opsOf Try.f6 11) = sandglasslaw11_FixedRate.T11 := by kernel_rfl
theorem sandglasslaw11_FixedRate.bits11 : waitsOk sandglasslaw11_FixedRate.T11.2 sandglasslaw11_FixedRate.B11 = true := by kernel_rfl
def sandglasslaw11_FixedRate.T14 : Bool × List (List Nat × List Nat) := (true, [([], []), ([], []), ([], []), ([], []), ([], []), ([3, 4], [3, 4]), ([5], [5]), ([6], [6]), ([0, 1, 2, 7], [0, 1, 2, 7]), ([8], [8]), ([9], [9]), ([9], [9]), ([], []), ([], []), ([12, 10, 8, 0, 1, 2, 3, 4, 5, 6, 7, 8, 9, 10, 12, 13], [10, 12]), ([13, 11, 14, 0, 1, 2, 3, 4, 5, 6, 7, 8, 9, 10, 11, 12, 13, 14], [11, 13])])
def sandglasslaw11_FixedRate.B14 : List Nat := [0, 0, 0, 0, 0, 24, 56, 120, 255, 511, 1023, 1023, 0, 0, 14335, 32767]
theorem sandglasslaw11_FixedRate.tab14 : rtab .any (opsOf Try.f6 14) = sandglasslaw11_FixedRate.T14 := by kernel_rfl
theorem sandglasslaw11_FixedRate.bits14 : waitsOk sandglasslaw11_FixedRate.T14.2 sandglasslaw11_FixedRate.B14 = true := by kernel_rfl
def sandglasslaw11_FixedRate.T16 : Bool × List (List Nat × List Nat) := (true, [([], []), ([0], [0]), ([], []), ([], []), ([], []), ([3, 4], [3, 4]), ([5], [5]), ([6], [6]), ([2, 7], [2, 7]), ([], []), ([9], [9]), ([8, 10], [8, 10]), ([1, 11], [1, 11])])
def sandglasslaw11_FixedRate.B16 : List Nat := [0, 1, 0, 0, 0, 24, 56, 120, 252, 0, 512, 2044, 4095]
theorem sandglasslaw11_FixedRate.tab16 : rtab .any (opsOf Try.f6 16) = sandglasslaw11_FixedRate.T16 := by kernel_rfl
theorem sandglasslaw11_FixedRate.bits16 : waitsOk sandglasslaw11_FixedRate.T16.2 sandglasslaw11_FixedRate.B16 = true := by kernel_rfl
set_option maxHeartbeats 8000000 in
set_option maxRecDepth 100000 in
theorem sandglasslaw11_FixedRate.calls (k : Nat) (a0_0 : Int) (a0_1 : Int) (a0_2 : Int) (a0_3 : Int) (A1 : Option Addr) (c1 : Nat) (l1 : List (S45)) (r : Bool) (w : World) (hr1 : Kd.C k45 w A1 l1.length l1) (hc1 : l1.length ≤ c1) (h : sandglasslaw11_FixedRate.f k a0_0 a0_1 a0_2 a0_3 l1 = some r) :
    Calls Try.prog 6 #[.agg #[.int .i64 a0_0, .int .i64 a0_1, .int .i64 a0_2, .int .i64 a0_3], .slice A1 l1.length c1] w fun e w' => e = .returned (.bool r) ∧ Below w.heap.size w w' := by
  have hu23 := Try.underlying23
  have hu27 := Try.underlying27
  have hu32 := Try.underlying32
  have HR1 := Aside0.mk hr1
  have HC1 := Aside0.mk hc1
  clear hr1 hc1
  have HB := Aside0.mk (Below.refl w.heap.size w)
  have H : (if (l1.length : Int) > 40 then (sandglasslaw11_FixedRate.j0 k l1 true a0_0 a0_1 a0_2 a0_3) else ((sandglassref09_Check.f k a0_0 a0_1 a0_2 a0_3).bind fun t390 => (if t390 = 0 then (sandglasslaw11_FixedRate.j0 k l1 (a0_0 != 2) a0_0 a0_1 a0_2 a0_3) else (sandglasslaw11_FixedRate.j0 k l1 true a0_0 a0_1 a0_2 a0_3)))) = some r := h
  clear h
  have HC3 := Aside0.mk H
  clear H
  go_enter Try.func6, Try.ntmps6
  go_upto_region 1 with (first | ((with_reducible refine gate_dst (N := 2) rfl ?_); refine box_event ?hg (N := 2) ?hd (cs := #[.int .i64 a0_0, .int .i64 a0_1, .int .i64 a0_2, .int .i64 a0_3]) (t := 23) ?hr ?_; (case hd => rfl); (case hg => rfl); (case hr => first | (go_simp; done) | (go_simp; rfl)); intro gb389 hg w4 hbox hb; have BK389 := Aside0.mk (hbox); have GW389 := Aside0.mk ((by rw [hg]; exact (below_size (bl HB)) : w.heap.size ≤ gb389)); have GE389 := Aside0.mk ((by rw [hg]; exact (below_size (bl HB)) : w.heap.size ≤ gb389)); replace HB := Aside0.mk (below_step (bl HB) hb); clear hb hbox hg))
  (try simp only [Act.put, List.setIfInBounds_toArray, List.set_cons_zero, List.set_cons_succ])
  go_cut [23] (fun v23 wc => ∃ (kq : Nat) (x23_2 : Bool), v23 = .bool x23_2 ∧ Aside0 (sandglasslaw11_FixedRate.j0 kq l1 x23_2 a0_0 a0_1 a0_2 a0_3 = some r) ∧ Aside0 (kq ≤ k) ∧ Aside0 (wc.heap[gb389]? = some (.cells #[.int .i64 a0_0, .int .i64 a0_1, .int .i64 a0_2, .int .i64 a0_3] 23 (0, 0))) ∧ Aside0 (Below w.heap.size w wc))
  case first =>
    have H := HC3.out
    clear HC3
    by_cases c5 : (l1.length : Int) > 40
    · rw [if_pos c5] at H
      have c5b0 : decide (40 < (l1.length : Int)) = true := decide_eq_true c5
      have c5b1 : decide (40 < l1.length) = true := decide_eq_true (by omega)
      clear c5
      (first | rw [c5b0] | (simp only [i64_w, i32_w]; rw [c5b0]) | skip)
      have H' := Aside0.mk H
      clear H
      go_wp2
      go_meet
      case rel => exact ⟨_, (true), (by first | (with_reducible rfl) | rfl | (simp; done) | (simp [*]; done)), H', ⟨by first | omega | exact Nat.le_refl _⟩, ⟨bo BK389⟩, ⟨bl HB⟩⟩
    · rw [if_neg c5] at H
      have c5b0 : decide (40 < (l1.length : Int)) = false := decide_eq_false c5
      have c5b1 : decide (40 < l1.length) = false := decide_eq_false (by omega)
      clear c5
      (first | rw [c5b0] | (simp only [i64_w, i32_w]; rw [c5b0]) | skip)
      replace H := Option.bind_eq_some_iff.mp H
      obtain ⟨t390, A60, H⟩ := H
      have A6 := Aside0.mk A60
      clear A60
      by_cases c7 : t390 = 0
      · rw [if_pos c7] at H
        have c7b0 : (t390 == 0) = true := beq_iff_eq.mpr c7
        have c7b1 : (t390 != 0) = false := bne_eq_false_iff_eq.mpr c7
        clear c7
        have H' := Aside0.mk H
        clear H
        obtain ⟨hcz8_0, hcz8_1, hcz8_2, hcz8_3⟩ := ce4 BK389
        obtain ⟨hfz8_0, hfz8_1, hfz8_2, hfz8_3⟩ := fr4 BK389
        go_wp2_with (first | (go_at_call 20; (with_reducible refine (sandglassref09_Check.calls k a0_0 a0_1 a0_2 a0_3 t390 _ A6.out).mono ?_); rintro e w9 ⟨rfl, hb⟩; replace BK389 := Aside0.mk (blk_below (bo BK389) hb); replace HB := Aside0.mk (below_step (bl HB) hb); (try clear hb); (try clear hb2); (try clear hk); (try clear hi); obtain ⟨hcz10_0, hcz10_1, hcz10_2, hcz10_3⟩ := ce4 BK389; obtain ⟨hfz10_0, hfz10_1, hfz10_2, hfz10_3⟩ := fr4 BK389))
        go_meet
        case rel => exact ⟨_, ((a0_0 != 2)), (by first | (with_reducible rfl) | rfl | (simp; done) | (simp [*]; done)), H', ⟨by first | omega | exact Nat.le_refl _⟩, ⟨bo BK389⟩, ⟨bl HB⟩⟩
      · rw [if_neg c7] at H
        have c7b0 : (t390 == 0) = false := beq_eq_false_iff_ne.mpr c7
        have c7b1 : (t390 != 0) = true := bne_iff_ne.mpr c7
        have H' := Aside0.mk H
        clear H
        obtain ⟨hcz11_0, hcz11_1, hcz11_2, hcz11_3⟩ := ce4 BK389
        obtain ⟨hfz11_0, hfz11_1, hfz11_2, hfz11_3⟩ := fr4 BK389
        go_wp2_with (first | (go_at_call 20; (with_reducible refine (sandglassref09_Check.calls k a0_0 a0_1 a0_2 a0_3 t390 _ A6.out).mono ?_); rintro e w12 ⟨rfl, hb⟩; replace BK389 := Aside0.mk (blk_below (bo BK389) hb); replace HB := Aside0.mk (below_step (bl HB) hb); (try clear hb); (try clear hb2); (try clear hk); (try clear hi)))
        go_meet
        case rel => exact ⟨_, (true), (by first | (with_reducible rfl) | rfl | (simp; done) | (simp [*]; done)), H', ⟨by first | omega | exact Nat.le_refl _⟩, ⟨bo BK389⟩, ⟨bl HB⟩⟩
  case rest =>
    clear HC3
    try clear c1
    try clear p2
    try clear c5
    try clear c5b0
    try clear c5b1
    try clear c6
    try clear c7
    try clear c7b0
    try clear c7b1
    try clear hcz10_0
    try clear hcz10_1
    try clear hcz10_2
    try clear hcz10_3
    try clear hcz11_0
    try clear hcz11_1
    try clear hcz11_2
    try clear hcz11_3
    try clear hcz8_0
    try clear hcz8_1
    try clear hcz8_2
    try clear hcz8_3
    try clear hfz10_0
    try clear hfz10_1
    try clear hfz10_2
    try clear hfz10_3
    try clear hfz11_0
    try clear hfz11_1
    try clear hfz11_2
    try clear hfz11_3
    try clear hfz8_0
    try clear hfz8_1
    try clear hfz8_2
    try clear hfz8_3
    obtain ⟨kq, x23_2, rfl, HA, HJ2, BK389, HB⟩ := hcut
    cases kq with
    | zero => exact absurd HA.out (by simp [sandglasslaw11_FixedRate.j0])
    | succ kj2 =>
      have H := HA.out
      clear HA
      simp only [sandglasslaw11_FixedRate.j0] at H
      by_cases c13 : x23_2 = true
      · subst c13
        rw [if_pos rfl] at H
        replace H := Option.bind_eq_some_iff.mp H
        obtain ⟨t391, A140, H⟩ := H
        have A14 := Aside0.mk A140
        clear A140
        obtain rfl := Option.some.inj H
        go_wp2_with (first | ((with_reducible refine gate_callee (f := 9) rfl ?_); refine goesL_ (some 24) rfl rfl Try.func9 (by kernel_rfl) rfl #[] rfl (by (try simp only [List.map_toArray, List.map_cons, List.map_nil]); first | done | rfl | (simp only [List.length_drop, List.length_take]; rfl)) ?_; (with_reducible refine (sandglasslaw11_live.calls kj2  t391 _ A14.out).mono ?_); rintro e w15 ⟨rfl, hb⟩; refine ⟨_, rfl, ?_⟩; replace BK389 := Aside0.mk (blk_below (bo BK389) hb); replace HB := Aside0.mk (below_step (bl HB) hb); (try clear hb); (try clear hb2); (try clear hk); (try clear hi)))
        go_ret
        exact ⟨by first | (with_reducible rfl) | rfl | (simp [errW_none, errW_some] <;> rfl) | (simp [*, errW_none, errW_some] <;> rfl), bl HB⟩
      · replace c13 := Bool.eq_false_iff.mpr c13
        subst c13
        rw [if_neg (show ¬ (false = true) by decide)] at H
        have H' := Aside0.mk H
        clear H
        go_wp2_with (first | ((with_reducible refine gate_dst (N := 5) rfl ?_); refine box_event ?hg (N := 5) ?hd (cs := #[.int .i64 0, .int .i64 0, .slice none 0 0, .slice none 0 0]) (t := 27) ?hr ?_; (case hd => rfl); (case hg => rfl); (case hr => first | (go_simp; done) | (go_simp; rfl)); intro gb392 hg w16 hbox hb; have BK392 := Aside0.mk (hbox); have GW392 := Aside0.mk ((by rw [hg]; exact (below_size (bl HB)) : w.heap.size ≤ gb392)); have GE392 := Aside0.mk ((by rw [hg]; exact (below_size (bl HB)) : w.heap.size ≤ gb392)); have NB389_392 := nb BK389 hg; have NB392_389 := bn BK389 hg; replace BK389 := Aside0.mk (blk_below (bo BK389) hb); replace HB := Aside0.mk (below_step (bl HB) hb); clear hb hbox hg; have hnb17 := NB392_389.out; have hnc17 := NB389_392.out; obtain ⟨hcz18_0, hcz18_1, hcz18_2, hcz18_3⟩ := ce4 BK392; obtain ⟨hfz18_0, hfz18_1, hfz18_2, hfz18_3⟩ := fr4 BK392) | ((with_reducible refine gate_store (t := 27) (p := 5) rfl ?_); refine store_event (t := 27) (p := 5) (v := ?vo_w19) (w1 := ((((w16.setCell ⟨gb392, 0, none⟩ (.int .i64 0)).setCell ⟨gb392, 1, none⟩ (.int .i64 0)).setCell ⟨gb392, 2, none⟩ (.slice none 0 0)).setCell ⟨gb392, 3, none⟩ (.slice none 0 0))) ?hg ?ho ?hn ?hr ?_; (case ho => rfl); (case hg => rfl); (case hn => rfl); (case hr => first | (go_simp; done) | (go_simp; rfl)); intro w19 hw; replace BK389 : Aside0 (w19.heap[gb389]? = some (.cells #[.int .i64 a0_0, .int .i64 a0_1, .int .i64 a0_2, .int .i64 a0_3] 23 (0, 0))) := ⟨(by rw [hw]; exact (by (with_reducible repeat (first | refine blk_drewN ?_ _ | refine blk_drew ?_ | refine blk_alloc ?_ _)); refine blk_far ?_ NB389_392.out _; (with_reducible repeat (first | refine blk_drewN ?_ _ | refine blk_drew ?_ | refine blk_alloc ?_ _)); refine blk_far ?_ NB389_392.out _; (with_reducible repeat (first | refine blk_drewN ?_ _ | refine blk_drew ?_ | refine blk_alloc ?_ _)); refine blk_far ?_ NB389_392.out _; (with_reducible repeat (first | refine blk_drewN ?_ _ | refine blk_drew ?_ | refine blk_alloc ?_ _)); refine blk_far ?_ NB389_392.out _; (with_reducible repeat (first | refine blk_drewN ?_ _ | refine blk_drew ?_ | refine blk_alloc ?_ _)); exact BK389.out))⟩; replace BK392 : Aside0 (w19.heap[gb392]? = some (.cells #[.int .i64 0, .int .i64 0, .slice none 0 0, .slice none 0 0] 27 (0, 0))) := ⟨(by rw [hw]; exact (by (with_reducible repeat (first | refine blk_drewN ?_ _ | refine blk_drew ?_ | refine blk_alloc ?_ _)); refine blk_put (cs := #[.int .i64 0, .int .i64 0, .slice none 0 0, .slice none 0 0]) ?_ 3 _ rfl; (with_reducible repeat (first | refine blk_drewN ?_ _ | refine blk_drew ?_ | refine blk_alloc ?_ _)); refine blk_put (cs := #[.int .i64 0, .int .i64 0, .slice none 0 0, .slice none 0 0]) ?_ 2 _ rfl; (with_reducible repeat (first | refine blk_drewN ?_ _ | refine blk_drew ?_ | refine blk_alloc ?_ _)); refine blk_put (cs := #[.int .i64 0, .int .i64 0, .slice none 0 0, .slice none 0 0]) ?_ 1 _ rfl; (with_reducible repeat (first | refine blk_drewN ?_ _ | refine blk_drew ?_ | refine blk_alloc ?_ _)); refine blk_put (cs := #[.int .i64 0, .int .i64 0, .slice none 0 0, .slice none 0 0]) ?_ 0 _ rfl; (with_reducible repeat (first | refine blk_drewN ?_ _ | refine blk_drew ?_ | refine blk_alloc ?_ _)); exact BK392.out))⟩; replace HB : Aside0 (Below w.heap.size w w19) := ⟨(by rw [hw]; exact (bl HB))⟩; clear hw))
        go_loopg [6, 7, 8] kj2 (fun kq v6 v7 v8 w' => ∃ (x6_2 : Int) (x7_2 : Int) (x8_2 : Int) (x393000_2 : Int) (x393001_2 : Int) (x393002_2 : List Int) (x393003_2 : List (S53)) (u393002 : Value) (u393003 : Value), v6 = .int .i64 x6_2 ∧ v7 = .int .i64 x7_2 ∧ v8 = .int .i64 x8_2 ∧ Aside0 (sandglasslaw11_FixedRate.l0 kq l1 x6_2 x7_2 x8_2 a0_0 a0_1 a0_2 a0_3 x393000_2 x393001_2 x393002_2 x393003_2 = some r) ∧ Aside0 (kq ≤ kj2) ∧ Aside0 (Kd.V (Kd.int .i64) 3 w' w.heap.size (fun k_ => k_ ≠ gb389 ∧ k_ ≠ gb392) u393002 x393002_2) ∧ Aside0 (Kd.V k53 53 w' w.heap.size (fun k_ => k_ ≠ gb389 ∧ k_ ≠ gb392) u393003 x393003_2) ∧ Aside0 (w'.heap[gb389]? = some (.cells #[.int .i64 a0_0, .int .i64 a0_1, .int .i64 a0_2, .int .i64 a0_3] 23 (0, 0))) ∧ Aside0 (w'.heap[gb392]? = some (.cells #[.int .i64 x393000_2, .int .i64 x393001_2, u393002, u393003] 27 (0, 0))) ∧ Aside0 (Below w.heap.size w w'))
        case atStart => exact ⟨(0), (0), (0), (0), (0), (([] : List Int)), (([] : List (S53))), (.slice none 0 0), (.slice none 0 0), (by first | (with_reducible rfl) | rfl | (simp; done) | (simp [*]; done)), (by first | (with_reducible rfl) | rfl | (simp; done) | (simp [*]; done)), (by first | (with_reducible rfl) | rfl | (simp; done) | (simp [*]; done)), H', ⟨Nat.le_refl _⟩, ⟨Kd.V_nil _ _ _ _ _⟩, ⟨Kd.V_nil _ _ _ _ _⟩, ⟨bo BK389⟩, ⟨bo BK392⟩, ⟨bl HB⟩⟩
        case round =>
          clear H'
          try clear c1
          try clear p2
          try clear c5
          try clear c5b0
          try clear c5b1
          try clear c6
          try clear c7
          try clear c7b0
          try clear c7b1
          try clear c9
          try clear c13
          try clear c17
          try clear hcz10_0
          try clear hcz10_1
          try clear hcz10_2
          try clear hcz10_3
          try clear hcz11_0
          try clear hcz11_1
          try clear hcz11_2
          try clear hcz11_3
          try clear hcz18_0
          try clear hcz18_1
          try clear hcz18_2
          try clear hcz18_3
          try clear hcz8_0
          try clear hcz8_1
          try clear hcz8_2
          try clear hcz8_3
          try clear hfz10_0
          try clear hfz10_1
          try clear hfz10_2
          try clear hfz10_3
          try clear hfz11_0
          try clear hfz11_1
          try clear hfz11_2
          try clear hfz11_3
          try clear hfz18_0
          try clear hfz18_1
          try clear hfz18_2
          try clear hfz18_3
          try clear hfz8_0
          try clear hfz8_1
          try clear hfz8_2
          try clear hfz8_3
          try clear p2
          obtain ⟨x6_2, x7_2, x8_2, x393000_2, x393001_2, x393002_2, x393003_2, u393002, u393003, rfl, rfl, rfl, HA, HK2, HO_393002, HO_393003, BK389, BK392, HB⟩ := hrel
          cases gk with
          | zero => exact absurd HA.out (by simp [sandglasslaw11_FixedRate.l0])
          | succ k2 =>
            have H := HA.out
            clear HA
            simp only [sandglasslaw11_FixedRate.l0] at H
            by_cases c20 : x8_2 < (l1.length : Int)
            · rw [if_pos c20] at H
              have c20b0 : decide (x8_2 < (l1.length : Int)) = true := decide_eq_true c20
              clear c20
              have HC21 := Aside0.mk H
              clear H
              go_upto_region 9 with (fail)
              go_cut [54] (fun v54 wc => ∃ (kq : Nat) (x54_20 : Bool), v54 = .bool x54_20 ∧ Aside0 (sandglasslaw11_FixedRate.j2 kq l1 x6_2 x7_2 x8_2 x54_20 a0_0 a0_1 a0_2 a0_3 x393000_2 x393001_2 x393002_2 x393003_2 = some r) ∧ Aside0 (kq ≤ k2) ∧ Aside0 (Kd.V (Kd.int .i64) 3 wc w.heap.size (fun k_ => k_ ≠ gb389 ∧ k_ ≠ gb392) u393002 x393002_2) ∧ Aside0 (Kd.V k53 53 wc w.heap.size (fun k_ => k_ ≠ gb389 ∧ k_ ≠ gb392) u393003 x393003_2) ∧ Aside0 (wc.heap[gb389]? = some (.cells #[.int .i64 a0_0, .int .i64 a0_1, .int .i64 a0_2, .int .i64 a0_3] 23 (0, 0))) ∧ Aside0 (wc.heap[gb392]? = some (.cells #[.int .i64 x393000_2, .int .i64 x393001_2, u393002, u393003] 27 (0, 0))) ∧ Aside0 (Below w.heap.size w wc))
              case first =>
                have H := HC21.out
                clear HC21
                by_cases c22 : 0 ≤ x8_2
                · rw [if_pos c22] at H
                  have c22b0 : decide (0 ≤ x8_2) = true := decide_eq_true c22
                  clear c22
                  (first | rw [c22b0] | (simp only [i64_w, i32_w]; rw [c22b0]) | skip)
                  by_cases c23 : ((rd_T45 l1 x8_2).f0) < 0
                  · rw [if_pos c23] at H
                    have c23b0 : decide (((rd_T45 l1 x8_2).f0) < 0) = true := decide_eq_true c23
                    clear c23
                    have H' := Aside0.mk H
                    clear H
                    have p393 : 0 ≤ (x8_2 : Int) := of_decide_eq_true (by first | (with_reducible assumption) | assumption)
                    have q393 : x8_2 < (l1.length : Int) := of_decide_eq_true (by first | (with_reducible assumption) | assumption)
                    obtain ⟨ad393, e393, hx393_0, hx393_1⟩ := at_T45 HR1.out x8_2 p393 q393
                    cases e393
                    replace hx393_0 := (HB.out.cell (World.block_lt_of_cell? w _ hx393_0)).trans hx393_0
                    replace hx393_1 := (HB.out.cell (World.block_lt_of_cell? w _ hx393_1)).trans hx393_1
                    replace p393 := eq_true p393
                    replace q393 := eq_true q393
                    go_wp2
                    go_meet
                    case rel => exact ⟨_, (true), (by first | (with_reducible rfl) | rfl | (simp; done) | (simp [*]; done)), H', ⟨by have := HJ2.out; have := HK2.out; first | omega | exact Nat.le_refl _⟩, ⟨by (with_reducible repeat (first | apply Kd.V_alloc | apply Kd.V_drewN | apply Kd.V_drew)); exact HO_393002.out⟩, ⟨by (with_reducible repeat (first | apply Kd.V_alloc | apply Kd.V_drewN | apply Kd.V_drew)); exact HO_393003.out⟩, ⟨bo BK389⟩, ⟨bo BK392⟩, ⟨bl HB⟩⟩
                  · rw [if_neg c23] at H
                    have c23b0 : decide (((rd_T45 l1 x8_2).f0) < 0) = false := decide_eq_false c23
                    clear c23
                    by_cases c24 : ((rd_T45 l1 x8_2).f0) > 1048576
                    · rw [if_pos c24] at H
                      have c24b0 : decide (1048576 < ((rd_T45 l1 x8_2).f0)) = true := decide_eq_true c24
                      clear c24
                      have H' := Aside0.mk H
                      clear H
                      have p393 : 0 ≤ (x8_2 : Int) := of_decide_eq_true (by first | (with_reducible assumption) | assumption)
                      have q393 : x8_2 < (l1.length : Int) := of_decide_eq_true (by first | (with_reducible assumption) | assumption)
                      obtain ⟨ad393, e393, hx393_0, hx393_1⟩ := at_T45 HR1.out x8_2 p393 q393
                      cases e393
                      replace hx393_0 := (HB.out.cell (World.block_lt_of_cell? w _ hx393_0)).trans hx393_0
                      replace hx393_1 := (HB.out.cell (World.block_lt_of_cell? w _ hx393_1)).trans hx393_1
                      replace p393 := eq_true p393
                      replace q393 := eq_true q393
                      have p394 : 0 ≤ (x8_2 : Int) := of_decide_eq_true (by first | (with_reducible assumption) | assumption)
                      have q394 : x8_2 < (l1.length : Int) := of_decide_eq_true (by first | (with_reducible assumption) | assumption)
                      obtain ⟨ad394, e394, hx394_0, hx394_1⟩ := at_T45 HR1.out x8_2 p394 q394
                      obtain rfl : ad393 = ad394 := (by injection e394)
                      replace hx394_0 := (HB.out.cell (World.block_lt_of_cell? w _ hx394_0)).trans hx394_0
                      replace hx394_1 := (HB.out.cell (World.block_lt_of_cell? w _ hx394_1)).trans hx394_1
                      replace p394 := eq_true p394
                      replace q394 := eq_true q394
                      go_wp2
                      go_meet
                      case rel => exact ⟨_, (true), (by first | (with_reducible rfl) | rfl | (simp; done) | (simp [*]; done)), H', ⟨by have := HJ2.out; have := HK2.out; first | omega | exact Nat.le_refl _⟩, ⟨by (with_reducible repeat (first | apply Kd.V_alloc | apply Kd.V_drewN | apply Kd.V_drew)); exact HO_393002.out⟩, ⟨by (with_reducible repeat (first | apply Kd.V_alloc | apply Kd.V_drewN | apply Kd.V_drew)); exact HO_393003.out⟩, ⟨bo BK389⟩, ⟨bo BK392⟩, ⟨bl HB⟩⟩
                    · rw [if_neg c24] at H
                      have c24b0 : decide (1048576 < ((rd_T45 l1 x8_2).f0)) = false := decide_eq_false c24
                      clear c24
                      replace H := Option.bind_eq_some_iff.mp H
                      obtain ⟨t396, A250, H⟩ := H
                      have A25 := Aside0.mk A250
                      clear A250
                      have H' := Aside0.mk H
                      clear H
                      have p393 : 0 ≤ (x8_2 : Int) := of_decide_eq_true (by first | (with_reducible assumption) | assumption)
                      have q393 : x8_2 < (l1.length : Int) := of_decide_eq_true (by first | (with_reducible assumption) | assumption)
                      obtain ⟨ad393, e393, hx393_0, hx393_1⟩ := at_T45 HR1.out x8_2 p393 q393
                      cases e393
                      replace hx393_0 := (HB.out.cell (World.block_lt_of_cell? w _ hx393_0)).trans hx393_0
                      replace hx393_1 := (HB.out.cell (World.block_lt_of_cell? w _ hx393_1)).trans hx393_1
                      replace p393 := eq_true p393
                      replace q393 := eq_true q393
                      have p394 : 0 ≤ (x8_2 : Int) := of_decide_eq_true (by first | (with_reducible assumption) | assumption)
                      have q394 : x8_2 < (l1.length : Int) := of_decide_eq_true (by first | (with_reducible assumption) | assumption)
                      obtain ⟨ad394, e394, hx394_0, hx394_1⟩ := at_T45 HR1.out x8_2 p394 q394
                      obtain rfl : ad393 = ad394 := (by injection e394)
                      replace hx394_0 := (HB.out.cell (World.block_lt_of_cell? w _ hx394_0)).trans hx394_0
                      replace hx394_1 := (HB.out.cell (World.block_lt_of_cell? w _ hx394_1)).trans hx394_1
                      replace p394 := eq_true p394
                      replace q394 := eq_true q394
                      have p395 : 0 ≤ (x8_2 : Int) := of_decide_eq_true (by first | (with_reducible assumption) | assumption)
                      have q395 : x8_2 < (l1.length : Int) := of_decide_eq_true (by first | (with_reducible assumption) | assumption)
                      obtain ⟨ad395, e395, hx395_0, hx395_1⟩ := at_T45 HR1.out x8_2 p395 q395
                      obtain rfl : ad393 = ad395 := (by injection e395)
                      replace hx395_0 := (HB.out.cell (World.block_lt_of_cell? w _ hx395_0)).trans hx395_0
                      replace hx395_1 := (HB.out.cell (World.block_lt_of_cell? w _ hx395_1)).trans hx395_1
                      replace p395 := eq_true p395
                      replace q395 := eq_true q395
                      go_wp2_with (first | (go_at_call 19; (with_reducible refine (sandglassref09_Weighs.calls ((rd_T45 l1 x8_2).f1) t396 _ A25.out).mono ?_); rintro e w' ⟨rfl, ⟨nd, rfl⟩⟩))
                      go_meet
                      case rel => exact ⟨_, (!t396), (by first | (with_reducible rfl) | rfl | (simp; done) | (simp [*]; done)), H', ⟨by have := HJ2.out; have := HK2.out; first | omega | exact Nat.le_refl _⟩, ⟨by (with_reducible repeat (first | apply Kd.V_alloc | apply Kd.V_drewN | apply Kd.V_drew)); exact HO_393002.out⟩, ⟨by (with_reducible repeat (first | apply Kd.V_alloc | apply Kd.V_drewN | apply Kd.V_drew)); exact HO_393003.out⟩, ⟨bo BK389⟩, ⟨bo BK392⟩, ⟨bl HB⟩⟩
                · rw [if_neg c22] at H
                  exact absurd H (by simp)
              case rest =>
                clear HC21
                try clear c1
                try clear c2
                try clear p2
                try clear p3
                try clear q3
                try clear hx3
                try clear c5
                try clear c5b0
                try clear c5b1
                try clear c6
                try clear c7
                try clear c7b0
                try clear c7b1
                try clear c9
                try clear c13
                try clear c17
                try clear c20
                try clear c20b0
                try clear c22
                try clear c22b0
                try clear c23
                try clear c23b0
                try clear c24
                try clear c24b0
                try clear hcz10_0
                try clear hcz10_1
                try clear hcz10_2
                try clear hcz10_3
                try clear hcz11_0
                try clear hcz11_1
                try clear hcz11_2
                try clear hcz11_3
                try clear hcz18_0
                try clear hcz18_1
                try clear hcz18_2
                try clear hcz18_3
                try clear hcz8_0
                try clear hcz8_1
                try clear hcz8_2
                try clear hcz8_3
                try clear hfz10_0
                try clear hfz10_1
                try clear hfz10_2
                try clear hfz10_3
                try clear hfz11_0
                try clear hfz11_1
                try clear hfz11_2
                try clear hfz11_3
                try clear hfz18_0
                try clear hfz18_1
                try clear hfz18_2
                try clear hfz18_3
                try clear hfz8_0
                try clear hfz8_1
                try clear hfz8_2
                try clear hfz8_3
                try clear hx393_0
                try clear hx393_1
                try clear hx394_0
                try clear hx394_1
                try clear hx395_0
                try clear hx395_1
                try clear p2
                try clear p393
                try clear p394
                try clear p395
                try clear q393
                try clear q394
                try clear q395
                obtain ⟨kq, x54_20, rfl, HA, HJ20, HO_393002, HO_393003, BK389, BK392, HB⟩ := hcut
                cases kq with
                | zero => exact absurd HA.out (by simp [sandglasslaw11_FixedRate.j2])
                | succ kj20 =>
                  have H := HA.out
                  clear HA
                  simp only [sandglasslaw11_FixedRate.j2] at H
                  by_cases c26 : x54_20 = true
                  · subst c26
                    rw [if_pos rfl] at H
                    replace H := Option.bind_eq_some_iff.mp H
                    obtain ⟨t397, A270, H⟩ := H
                    have A27 := Aside0.mk A270
                    clear A270
                    obtain rfl := Option.some.inj H
                    go_wp2_with (first | ((with_reducible refine gate_callee (f := 9) rfl ?_); refine goesL_ (some 55) rfl rfl Try.func9 (by kernel_rfl) rfl #[] rfl (by (try simp only [List.map_toArray, List.map_cons, List.map_nil]); first | done | rfl | (simp only [List.length_drop, List.length_take]; rfl)) ?_; (with_reducible refine (sandglasslaw11_live.calls kj20  t397 _ A27.out).mono ?_); rintro e w28 ⟨rfl, hb⟩; refine ⟨_, rfl, ?_⟩; replace HO_393002 := vb HO_393002 hb; replace HO_393003 := vb HO_393003 hb; replace BK389 := Aside0.mk (blk_below (bo BK389) hb); replace BK392 := Aside0.mk (blk_below (bo BK392) hb); replace HB := Aside0.mk (below_step (bl HB) hb); (try clear hb); (try clear hb2); (try clear hk); (try clear hi)))
                    go_ret
                    exact ⟨by first | (with_reducible rfl) | rfl | (simp [errW_none, errW_some] <;> rfl) | (simp [*, errW_none, errW_some] <;> rfl), bl HB⟩
                  · replace c26 := Bool.eq_false_iff.mpr c26
                    subst c26
                    rw [if_neg (show ¬ (false = true) by decide)] at H
                    by_cases c29 : 0 ≤ x8_2
                    · rw [if_pos c29] at H
                      have c29b0 : decide (0 ≤ x8_2) = true := decide_eq_true c29
                      clear c29
                      by_cases c30 : x8_2 < (l1.length : Int)
                      · rw [if_pos c30] at H
                        have c30b0 : decide (x8_2 < (l1.length : Int)) = true := decide_eq_true c30
                        clear c30
                        by_cases c31 : a0_2 = 0
                        · rw [if_pos c31] at H
                          exact absurd H (by simp)
                        · rw [if_neg c31] at H
                          have c31b0 : (a0_2 == 0) = false := beq_eq_false_iff_ne.mpr c31
                          have c31b1 : (a0_2 != 0) = true := bne_iff_ne.mpr c31
                          have HC32 := Aside0.mk H
                          clear H
                          try go_wp2
                          replace HO_393002 := Aside0.mk (Kd.V_drew HO_393002.out)
                          replace HO_393003 := Aside0.mk (Kd.V_drew HO_393003.out)
                          replace BK389 := Aside0.mk (blk_drew BK389.out)
                          replace BK392 := Aside0.mk (blk_drew BK392.out)
                          replace HB := Aside0.mk (below_drew1 HB.out)
                          have p398 : 0 ≤ (x8_2 : Int) := of_decide_eq_true (by first | (with_reducible assumption) | assumption)
                          have q398 : x8_2 < (l1.length : Int) := of_decide_eq_true (by first | (with_reducible assumption) | assumption)
                          obtain ⟨ad398, e398, hx398_0, hx398_1⟩ := at_T45 HR1.out x8_2 p398 q398
                          have hw398_1 := hx398_1
                          have hw398_0 := hx398_0
                          cases e398
                          replace hx398_0 := (HB.out.cell (World.block_lt_of_cell? w _ hx398_0)).trans hx398_0
                          replace hx398_1 := (HB.out.cell (World.block_lt_of_cell? w _ hx398_1)).trans hx398_1
                          replace p398 := eq_true p398
                          replace q398 := eq_true q398
                          refine start_ (n := 15) (S := fun w' => w'.cell? ⟨gb389, 0, none⟩ = some (.int .i64 a0_0) ∧ w'.cell? ⟨gb389, 1, none⟩ = some (.int .i64 a0_1) ∧ w'.cell? ⟨gb389, 2, none⟩ = some (.int .i64 a0_2) ∧ w'.cell? ⟨gb389, 3, none⟩ = some (.int .i64 a0_3) ∧ w'.cell? (ad398.add ((x8_2).toNat * 2)) = some (.int .i64 ((rd_T45 l1 x8_2).f0)) ∧ w'.cell? ⟨(ad398.add ((x8_2).toNat * 2)).block, (ad398.add ((x8_2).toNat * 2)).off + 1, none⟩ = some (.int .i64 ((rd_T45 l1 x8_2).f1))) (ds := []) #[false, false, false, false, false, false, false, false, false, false, false, false, false, false, false] (by kernel_rfl) rfl rfl ⟨(blk_cell BK389.out 0).trans rfl, (blk_cell BK389.out 1).trans rfl, (blk_cell BK389.out 2).trans rfl, (blk_cell BK389.out 3).trans rfl, ((HB.out.cell (World.block_lt_of_cell? w _ hw398_0)).trans hw398_0), ((HB.out.cell (World.block_lt_of_cell? w _ hw398_1)).trans hw398_1)⟩ (fun hHeld => ?_); refine with_tabW sandglasslaw11_FixedRate.tab11 sandglasslaw11_FixedRate.bits11 (fun HT_ HW_ => ?_)
                          generalize wc.drew = w33 at HO_393002 HO_393003 BK389 BK392 HB hx398_0 hx398_1 hHeld ⊢
                          refine pureA 0 56 HT_ ?_
                          refine pureA 1 57 HT_ ?_
                          refine pureA 2 58 HT_ ?_
                          refine pureA 3 59 HT_ ?_
                          refine pureA 4 60 HT_ ?_
                          refine pureA 7 63 HT_ ?_
                          refine pureA 10 66 HT_ ?_
                          refine pureA 11 67 HT_ ?_
                          refine takeA 5 61 HT_ HW_ hHeld ?_
                          refine pureA 6 62 HT_ ?_
                          refine takeA 8 64 HT_ HW_ hHeld ?_
                          refine pureA 9 65 HT_ ?_
                          refine takeA 12 68 HT_ HW_ hHeld ?_
                          refine pureA 13 69 HT_ ?_
                          refine pureA 14 70 HT_ ?_
                          refine done_ (done_of HT_.out (by kernel_rfl)) ?_
                          go_upto_if 70 with (fail)
                          go_cut [7] (fun v7 wc => ∃ (kq : Nat) (x7_31 : Int), v7 = .int .i64 x7_31 ∧ Aside0 (sandglasslaw11_FixedRate.j3 kq l1 x6_2 x7_31 x8_2 a0_0 a0_1 a0_2 a0_3 x393000_2 x393001_2 x393002_2 x393003_2 = some r) ∧ Aside0 (kq ≤ kj20) ∧ Aside0 (Kd.V (Kd.int .i64) 3 wc w.heap.size (fun k_ => k_ ≠ gb389 ∧ k_ ≠ gb392) u393002 x393002_2) ∧ Aside0 (Kd.V k53 53 wc w.heap.size (fun k_ => k_ ≠ gb389 ∧ k_ ≠ gb392) u393003 x393003_2) ∧ Aside0 (wc.heap[gb389]? = some (.cells #[.int .i64 a0_0, .int .i64 a0_1, .int .i64 a0_2, .int .i64 a0_3] 23 (0, 0))) ∧ Aside0 (wc.heap[gb392]? = some (.cells #[.int .i64 x393000_2, .int .i64 x393001_2, u393002, u393003] 27 (0, 0))) ∧ Aside0 (Below w.heap.size w wc))
                          case first =>
                            have H := HC32.out
                            clear HC32
                            by_cases c34 : (wrap64 (Int.tdiv (wrap64 (x6_2 + ((rd_T45 l1 x8_2).f0))) a0_2)) = (wrap64 (Int.tdiv x6_2 a0_2))
                            · rw [if_pos c34] at H
                              have c34b0 : ((wrap64 (Int.tdiv (wrap64 (x6_2 + ((rd_T45 l1 x8_2).f0))) a0_2)) == (wrap64 (Int.tdiv x6_2 a0_2))) = true := beq_iff_eq.mpr c34
                              have c34b1 : ((wrap64 (Int.tdiv (wrap64 (x6_2 + ((rd_T45 l1 x8_2).f0))) a0_2)) != (wrap64 (Int.tdiv x6_2 a0_2))) = false := bne_eq_false_iff_eq.mpr c34
                              clear c34
                              (first | rw [c34b0] | (simp only [i64_w, i32_w]; rw [c34b0]) | skip)
                              have H' := Aside0.mk H
                              clear H
                              go_wp2
                              go_meet
                              case rel => exact ⟨_, (x7_2), (by first | (with_reducible rfl) | rfl | (simp; done) | (simp [*]; done)), H', ⟨by have := HJ2.out; have := HK2.out; have := HJ20.out; first | omega | exact Nat.le_refl _⟩, ⟨by (with_reducible repeat (first | apply Kd.V_alloc | apply Kd.V_drewN | apply Kd.V_drew)); exact HO_393002.out⟩, ⟨by (with_reducible repeat (first | apply Kd.V_alloc | apply Kd.V_drewN | apply Kd.V_drew)); exact HO_393003.out⟩, ⟨bo BK389⟩, ⟨bo BK392⟩, ⟨bl HB⟩⟩
                            · rw [if_neg c34] at H
                              have c34b0 : ((wrap64 (Int.tdiv (wrap64 (x6_2 + ((rd_T45 l1 x8_2).f0))) a0_2)) == (wrap64 (Int.tdiv x6_2 a0_2))) = false := beq_eq_false_iff_ne.mpr c34
                              have c34b1 : ((wrap64 (Int.tdiv (wrap64 (x6_2 + ((rd_T45 l1 x8_2).f0))) a0_2)) != (wrap64 (Int.tdiv x6_2 a0_2))) = true := bne_iff_ne.mpr c34
                              (first | rw [c34b0] | (simp only [i64_w, i32_w]; rw [c34b0]) | skip)
                              have H' := Aside0.mk H
                              clear H
                              go_wp2
                              go_meet
                              case rel => exact ⟨_, (0), (by first | (with_reducible rfl) | rfl | (simp; done) | (simp [*]; done)), H', ⟨by have := HJ2.out; have := HK2.out; have := HJ20.out; first | omega | exact Nat.le_refl _⟩, ⟨by (with_reducible repeat (first | apply Kd.V_alloc | apply Kd.V_drewN | apply Kd.V_drew)); exact HO_393002.out⟩, ⟨by (with_reducible repeat (first | apply Kd.V_alloc | apply Kd.V_drewN | apply Kd.V_drew)); exact HO_393003.out⟩, ⟨bo BK389⟩, ⟨bo BK392⟩, ⟨bl HB⟩⟩
                          case rest =>
                            clear HC32
                            try clear c1
                            try clear c2
                            try clear p2
                            try clear c3
                            try clear p3
                            try clear q3
                            try clear hx3
                            try clear c5
                            try clear c5b0
                            try clear c5b1
                            try clear c6
                            try clear p6
                            try clear c7
                            try clear c7b0
                            try clear c7b1
                            try clear c9
                            try clear c13
                            try clear c17
                            try clear c20
                            try clear c20b0
                            try clear c22
                            try clear c22b0
                            try clear c23
                            try clear c23b0
                            try clear c24
                            try clear c24b0
                            try clear c26
                            try clear c29
                            try clear c29b0
                            try clear c30
                            try clear c30b0
                            try clear c31
                            try clear c31b0
                            try clear c31b1
                            try clear c34
                            try clear c34b0
                            try clear c34b1
                            try clear hcz10_0
                            try clear hcz10_1
                            try clear hcz10_2
                            try clear hcz10_3
                            try clear hcz11_0
                            try clear hcz11_1
                            try clear hcz11_2
                            try clear hcz11_3
                            try clear hcz18_0
                            try clear hcz18_1
                            try clear hcz18_2
                            try clear hcz18_3
                            try clear hcz8_0
                            try clear hcz8_1
                            try clear hcz8_2
                            try clear hcz8_3
                            try clear hfz10_0
                            try clear hfz10_1
                            try clear hfz10_2
                            try clear hfz10_3
                            try clear hfz11_0
                            try clear hfz11_1
                            try clear hfz11_2
                            try clear hfz11_3
                            try clear hfz18_0
                            try clear hfz18_1
                            try clear hfz18_2
                            try clear hfz18_3
                            try clear hfz8_0
                            try clear hfz8_1
                            try clear hfz8_2
                            try clear hfz8_3
                            try clear hx393_0
                            try clear hx393_1
                            try clear hx394_0
                            try clear hx394_1
                            try clear hx395_0
                            try clear hx395_1
                            try clear hx398_0
                            try clear hx398_1
                            try clear p2
                            try clear p3
                            try clear p393
                            try clear p394
                            try clear p395
                            try clear p398
                            try clear q3
                            try clear q393
                            try clear q394
                            try clear q395
                            try clear q398
                            obtain ⟨kq, x7_31, rfl, HA, HJ31, HO_393002, HO_393003, BK389, BK392, HB⟩ := hcut
                            cases kq with
                            | zero => exact absurd HA.out (by simp [sandglasslaw11_FixedRate.j3])
                            | succ kj31 =>
                              have H := HA.out
                              clear HA
                              simp only [sandglasslaw11_FixedRate.j3] at H
                              by_cases c35 : 0 ≤ x8_2
                              · rw [if_pos c35] at H
                                have c35b0 : decide (0 ≤ x8_2) = true := decide_eq_true c35
                                clear c35
                                by_cases c36 : x8_2 < (l1.length : Int)
                                · rw [if_pos c36] at H
                                  have c36b0 : decide (x8_2 < (l1.length : Int)) = true := decide_eq_true c36
                                  clear c36
                                  replace H := Option.bind_eq_some_iff.mp H
                                  obtain ⟨⟨t401, t402, t403, t406, t409, t410, t411, t412⟩, A370, H⟩ := H
                                  have A37 := Aside0.mk A370
                                  clear A370
                                  by_cases c38 : (t409 != (decide ((wrap64 (x7_31 + ((rd_T45 l1 x8_2).f1))) ≤ a0_1))) = true
                                  · rw [if_pos c38] at H
                                    exact absurd H (by simp)
                                  · rw [if_neg c38] at H
                                    have c38b0 : (t409 != (decide ((wrap64 (x7_31 + ((rd_T45 l1 x8_2).f1))) ≤ a0_1))) = false := by simpa using c38
                                    (try (have c38b1 : decide (t409 = (decide ((wrap64 (x7_31 + ((rd_T45 l1 x8_2).f1))) ≤ a0_1))) = true := by simpa using c38))
                                    (try (have c38b2 : (t409 == (decide ((wrap64 (x7_31 + ((rd_T45 l1 x8_2).f1))) ≤ a0_1))) = true := by simpa using c38))
                                    clear c38
                                    have HC39 := Aside0.mk H
                                    clear H
                                    have p399 : 0 ≤ (x8_2 : Int) := of_decide_eq_true (by first | (with_reducible assumption) | assumption)
                                    have q399 : x8_2 < (l1.length : Int) := of_decide_eq_true (by first | (with_reducible assumption) | assumption)
                                    obtain ⟨ad399, e399, hx399_0, hx399_1⟩ := at_T45 HR1.out x8_2 p399 q399
                                    obtain rfl : ad398 = ad399 := (by injection e399)
                                    replace hx399_0 := (HB.out.cell (World.block_lt_of_cell? w _ hx399_0)).trans hx399_0
                                    replace hx399_1 := (HB.out.cell (World.block_lt_of_cell? w _ hx399_1)).trans hx399_1
                                    replace p399 := eq_true p399
                                    replace q399 := eq_true q399
                                    obtain ⟨Ao40, co40, eo40⟩ := Kd.V_slice HO_393002.out
                                    subst eo40
                                    obtain ⟨Ao41, co41, eo41⟩ := Kd.V_slice HO_393003.out
                                    subst eo41
                                    try go_wp2
                                    replace HO_393002 := Aside0.mk (Kd.V_drew HO_393002.out)
                                    replace HO_393003 := Aside0.mk (Kd.V_drew HO_393003.out)
                                    replace BK389 := Aside0.mk (blk_drew BK389.out)
                                    replace BK392 := Aside0.mk (blk_drew BK392.out)
                                    replace HB := Aside0.mk (below_drew1 HB.out)
                                    have p400 : 0 ≤ (x8_2 : Int) := of_decide_eq_true (by first | (with_reducible assumption) | assumption)
                                    have q400 : x8_2 < (l1.length : Int) := of_decide_eq_true (by first | (with_reducible assumption) | assumption)
                                    obtain ⟨ad400, e400, hx400_0, hx400_1⟩ := at_T45 HR1.out x8_2 p400 q400
                                    have hw400_1 := hx400_1
                                    have hw400_0 := hx400_0
                                    obtain rfl : ad398 = ad400 := (by injection e400)
                                    replace hx400_0 := (HB.out.cell (World.block_lt_of_cell? w _ hx400_0)).trans hx400_0
                                    replace hx400_1 := (HB.out.cell (World.block_lt_of_cell? w _ hx400_1)).trans hx400_1
                                    replace p400 := eq_true p400
                                    replace q400 := eq_true q400
                                    refine start_ (n := 16) (S := fun w' => w'.cell? ⟨gb389, 0, none⟩ = some (.int .i64 a0_0) ∧ w'.cell? ⟨gb389, 1, none⟩ = some (.int .i64 a0_1) ∧ w'.cell? ⟨gb389, 2, none⟩ = some (.int .i64 a0_2) ∧ w'.cell? ⟨gb389, 3, none⟩ = some (.int .i64 a0_3) ∧ w'.cell? ⟨gb392, 0, none⟩ = some (.int .i64 x393000_2) ∧ w'.cell? ⟨gb392, 1, none⟩ = some (.int .i64 x393001_2) ∧ w'.cell? ⟨gb392, 2, none⟩ = some (.slice Ao40 x393002_2.length co40) ∧ w'.cell? ⟨gb392, 3, none⟩ = some (.slice Ao41 x393003_2.length co41) ∧ w'.cell? (ad398.add ((x8_2).toNat * 2)) = some (.int .i64 ((rd_T45 l1 x8_2).f0)) ∧ w'.cell? ⟨(ad398.add ((x8_2).toNat * 2)).block, (ad398.add ((x8_2).toNat * 2)).off + 1, none⟩ = some (.int .i64 ((rd_T45 l1 x8_2).f1))) (ds := []) #[false, false, false, false, false, false, false, false, false, false, false, false, false, false, false, false] (by kernel_rfl) rfl rfl ⟨(blk_cell BK389.out 0).trans rfl, (blk_cell BK389.out 1).trans rfl, (blk_cell BK389.out 2).trans rfl, (blk_cell BK389.out 3).trans rfl, (blk_cell BK392.out 0).trans rfl, (blk_cell BK392.out 1).trans rfl, (blk_cell BK392.out 2).trans rfl, (blk_cell BK392.out 3).trans rfl, ((HB.out.cell (World.block_lt_of_cell? w _ hw400_0)).trans hw400_0), ((HB.out.cell (World.block_lt_of_cell? w _ hw400_1)).trans hw400_1)⟩ (fun hHeld => ?_); refine with_tabW sandglasslaw11_FixedRate.tab14 sandglasslaw11_FixedRate.bits14 (fun HT_ HW_ => ?_)
                                    generalize wc.drew = w42 at HO_393002 HO_393003 BK389 BK392 HB hx400_0 hx400_1 hHeld ⊢
                                    refine pureA 2 81 HT_ ?_
                                    refine pureA 3 82 HT_ ?_
                                    refine pureA 4 83 HT_ ?_
                                    refine pureA 5 84 HT_ ?_
                                    refine pureA 6 85 HT_ ?_
                                    refine takeA 0 79 HT_ HW_ hHeld ?_
                                    refine takeA 1 80 HT_ HW_ hHeld ?_
                                    refine takeA 7 86 HT_ HW_ hHeld ?_
                                    refine join_ (σ := Value × Value × Nat × Nat) 2 #[true, true, true, true, true, true, true, true, true, true, true, true, true, true, false, false] (fun s_ => [(87, .tuple #[.agg #[.int .i64 t401, .int .i64 t402, s_.1, s_.2.1], .agg #[.bool t409, .int .i64 t410, .int .i64 t411, .int .i64 t412]]), (9, .pointer (some ⟨s_.2.2.1, 0, none⟩)), (10, .pointer (some ⟨s_.2.2.2, 0, none⟩)), (78, .tuple #[.agg #[.int .i64 t401, .int .i64 t402, s_.1, s_.2.1], .agg #[.bool t409, .int .i64 t410, .int .i64 t411, .int .i64 t412]]), (88, .agg #[.int .i64 t401, .int .i64 t402, s_.1, s_.2.1]), (89, .agg #[.bool t409, .int .i64 t410, .int .i64 t411, .int .i64 t412])]) (fun s_ w' => (w'.cell? ⟨gb389, 0, none⟩ = some (.int .i64 a0_0) ∧ w'.cell? ⟨gb389, 1, none⟩ = some (.int .i64 a0_1) ∧ w'.cell? ⟨gb389, 2, none⟩ = some (.int .i64 a0_2) ∧ w'.cell? ⟨gb389, 3, none⟩ = some (.int .i64 a0_3) ∧ w'.cell? ⟨gb392, 0, none⟩ = some (.int .i64 x393000_2) ∧ w'.cell? ⟨gb392, 1, none⟩ = some (.int .i64 x393001_2) ∧ w'.cell? ⟨gb392, 2, none⟩ = some (.slice Ao40 x393002_2.length co40) ∧ w'.cell? ⟨gb392, 3, none⟩ = some (.slice Ao41 x393003_2.length co41) ∧ w'.cell? (ad398.add ((x8_2).toNat * 2)) = some (.int .i64 ((rd_T45 l1 x8_2).f0)) ∧ w'.cell? ⟨(ad398.add ((x8_2).toNat * 2)).block, (ad398.add ((x8_2).toNat * 2)).off + 1, none⟩ = some (.int .i64 ((rd_T45 l1 x8_2).f1))) ∧ (Kd.V (Kd.int .i64) 3 w' w.heap.size (fun k_ => k_ ≠ gb389 ∧ k_ ≠ gb392 ∧ k_ ≠ s_.2.2.1 ∧ k_ ≠ s_.2.2.2) s_.1 t403) ∧ (Kd.V k53 53 w' w.heap.size (fun k_ => k_ ≠ gb389 ∧ k_ ≠ gb392 ∧ k_ ≠ s_.2.2.1 ∧ k_ ≠ s_.2.2.2) s_.2.1 t406) ∧ (Kd.V (Kd.int .i64) 3 w' w.heap.size (fun k_ => k_ ≠ gb389 ∧ k_ ≠ gb392 ∧ k_ ≠ s_.2.2.1 ∧ k_ ≠ s_.2.2.2) (.slice Ao40 x393002_2.length co40) x393002_2) ∧ (Kd.V k53 53 w' w.heap.size (fun k_ => k_ ≠ gb389 ∧ k_ ≠ gb392 ∧ k_ ≠ s_.2.2.1 ∧ k_ ≠ s_.2.2.2) (.slice Ao41 x393003_2.length co41) x393003_2) ∧ (w'.heap[gb389]? = some (.cells #[.int .i64 a0_0, .int .i64 a0_1, .int .i64 a0_2, .int .i64 a0_3] 23 (0, 0))) ∧ (w'.heap[gb392]? = some (.cells #[.int .i64 x393000_2, .int .i64 x393001_2, .slice Ao40 x393002_2.length co40, .slice Ao41 x393003_2.length co41] 27 (0, 0))) ∧ (w'.heap[s_.2.2.1]? = some (.cells #[.int .i64 0, .int .i64 0, .slice none 0 0, .slice none 0 0] 27 (0, 0))) ∧ (w'.heap[s_.2.2.2]? = some (.cells #[.bool false, .int .i64 0, .int .i64 0, .int .i64 0] 32 (0, 0))) ∧ (w.heap.size ≤ s_.2.2.1) ∧ (w.heap.size ≤ s_.2.2.1) ∧ (gb389 ≠ s_.2.2.1) ∧ (s_.2.2.1 ≠ gb389) ∧ (gb392 ≠ s_.2.2.1) ∧ (s_.2.2.1 ≠ gb392) ∧ (s_.2.2.2 ≠ s_.2.2.1) ∧ (s_.2.2.1 ≠ s_.2.2.2) ∧ (w.heap.size ≤ s_.2.2.2) ∧ (w.heap.size ≤ s_.2.2.2) ∧ (gb389 ≠ s_.2.2.2) ∧ (s_.2.2.2 ≠ gb389) ∧ (gb392 ≠ s_.2.2.2) ∧ (s_.2.2.2 ≠ gb392) ∧ (Below w.heap.size w w')) ?_ ?_
                                    rotate_left
                                    · intro hJ8_12_13
                                      refine join_ (σ := Value × Value × Nat) 3 #[true, true, true, true, true, true, true, true, true, true, true, true, true, false, false, false] (fun s_ => [(87, .tuple #[.agg #[.int .i64 t401, .int .i64 t402, s_.1, s_.2.1], .agg #[.bool t409, .int .i64 t410, .int .i64 t411, .int .i64 t412]]), (9, .pointer (some ⟨s_.2.2, 0, none⟩)), (78, .tuple #[.agg #[.int .i64 t401, .int .i64 t402, s_.1, s_.2.1], .agg #[.bool t409, .int .i64 t410, .int .i64 t411, .int .i64 t412]]), (88, .agg #[.int .i64 t401, .int .i64 t402, s_.1, s_.2.1]), (89, .agg #[.bool t409, .int .i64 t410, .int .i64 t411, .int .i64 t412])]) (fun s_ w' => (w'.cell? ⟨gb389, 0, none⟩ = some (.int .i64 a0_0) ∧ w'.cell? ⟨gb389, 1, none⟩ = some (.int .i64 a0_1) ∧ w'.cell? ⟨gb389, 2, none⟩ = some (.int .i64 a0_2) ∧ w'.cell? ⟨gb389, 3, none⟩ = some (.int .i64 a0_3) ∧ w'.cell? ⟨gb392, 0, none⟩ = some (.int .i64 x393000_2) ∧ w'.cell? ⟨gb392, 1, none⟩ = some (.int .i64 x393001_2) ∧ w'.cell? ⟨gb392, 2, none⟩ = some (.slice Ao40 x393002_2.length co40) ∧ w'.cell? ⟨gb392, 3, none⟩ = some (.slice Ao41 x393003_2.length co41) ∧ w'.cell? (ad398.add ((x8_2).toNat * 2)) = some (.int .i64 ((rd_T45 l1 x8_2).f0)) ∧ w'.cell? ⟨(ad398.add ((x8_2).toNat * 2)).block, (ad398.add ((x8_2).toNat * 2)).off + 1, none⟩ = some (.int .i64 ((rd_T45 l1 x8_2).f1))) ∧ (Kd.V (Kd.int .i64) 3 w' w.heap.size (fun k_ => k_ ≠ gb389 ∧ k_ ≠ gb392 ∧ k_ ≠ s_.2.2) s_.1 t403) ∧ (Kd.V k53 53 w' w.heap.size (fun k_ => k_ ≠ gb389 ∧ k_ ≠ gb392 ∧ k_ ≠ s_.2.2) s_.2.1 t406) ∧ (Kd.V (Kd.int .i64) 3 w' w.heap.size (fun k_ => k_ ≠ gb389 ∧ k_ ≠ gb392 ∧ k_ ≠ s_.2.2) (.slice Ao40 x393002_2.length co40) x393002_2) ∧ (Kd.V k53 53 w' w.heap.size (fun k_ => k_ ≠ gb389 ∧ k_ ≠ gb392 ∧ k_ ≠ s_.2.2) (.slice Ao41 x393003_2.length co41) x393003_2) ∧ (w'.heap[gb389]? = some (.cells #[.int .i64 a0_0, .int .i64 a0_1, .int .i64 a0_2, .int .i64 a0_3] 23 (0, 0))) ∧ (w'.heap[gb392]? = some (.cells #[.int .i64 x393000_2, .int .i64 x393001_2, .slice Ao40 x393002_2.length co40, .slice Ao41 x393003_2.length co41] 27 (0, 0))) ∧ (w'.heap[s_.2.2]? = some (.cells #[.int .i64 0, .int .i64 0, .slice none 0 0, .slice none 0 0] 27 (0, 0))) ∧ (w.heap.size ≤ s_.2.2) ∧ (w.heap.size ≤ s_.2.2) ∧ (gb389 ≠ s_.2.2) ∧ (s_.2.2 ≠ gb389) ∧ (gb392 ≠ s_.2.2) ∧ (s_.2.2 ≠ gb392) ∧ (Below w.heap.size w w')) ?_ ?_
                                      rotate_left
                                      · intro hJ8_12
                                        refine join_ (σ := Value × Value × Nat) 3 #[true, true, true, true, true, true, true, true, true, true, true, true, false, true, false, false] (fun s_ => [(87, .tuple #[.agg #[.int .i64 t401, .int .i64 t402, s_.1, s_.2.1], .agg #[.bool t409, .int .i64 t410, .int .i64 t411, .int .i64 t412]]), (10, .pointer (some ⟨s_.2.2, 0, none⟩)), (78, .tuple #[.agg #[.int .i64 t401, .int .i64 t402, s_.1, s_.2.1], .agg #[.bool t409, .int .i64 t410, .int .i64 t411, .int .i64 t412]]), (88, .agg #[.int .i64 t401, .int .i64 t402, s_.1, s_.2.1]), (89, .agg #[.bool t409, .int .i64 t410, .int .i64 t411, .int .i64 t412])]) (fun s_ w' => (w'.cell? ⟨gb389, 0, none⟩ = some (.int .i64 a0_0) ∧ w'.cell? ⟨gb389, 1, none⟩ = some (.int .i64 a0_1) ∧ w'.cell? ⟨gb389, 2, none⟩ = some (.int .i64 a0_2) ∧ w'.cell? ⟨gb389, 3, none⟩ = some (.int .i64 a0_3) ∧ w'.cell? ⟨gb392, 0, none⟩ = some (.int .i64 x393000_2) ∧ w'.cell? ⟨gb392, 1, none⟩ = some (.int .i64 x393001_2) ∧ w'.cell? ⟨gb392, 2, none⟩ = some (.slice Ao40 x393002_2.length co40) ∧ w'.cell? ⟨gb392, 3, none⟩ = some (.slice Ao41 x393003_2.length co41) ∧ w'.cell? (ad398.add ((x8_2).toNat * 2)) = some (.int .i64 ((rd_T45 l1 x8_2).f0)) ∧ w'.cell? ⟨(ad398.add ((x8_2).toNat * 2)).block, (ad398.add ((x8_2).toNat * 2)).off + 1, none⟩ = some (.int .i64 ((rd_T45 l1 x8_2).f1))) ∧ (Kd.V (Kd.int .i64) 3 w' w.heap.size (fun k_ => k_ ≠ gb389 ∧ k_ ≠ gb392 ∧ k_ ≠ s_.2.2) s_.1 t403) ∧ (Kd.V k53 53 w' w.heap.size (fun k_ => k_ ≠ gb389 ∧ k_ ≠ gb392 ∧ k_ ≠ s_.2.2) s_.2.1 t406) ∧ (Kd.V (Kd.int .i64) 3 w' w.heap.size (fun k_ => k_ ≠ gb389 ∧ k_ ≠ gb392 ∧ k_ ≠ s_.2.2) (.slice Ao40 x393002_2.length co40) x393002_2) ∧ (Kd.V k53 53 w' w.heap.size (fun k_ => k_ ≠ gb389 ∧ k_ ≠ gb392 ∧ k_ ≠ s_.2.2) (.slice Ao41 x393003_2.length co41) x393003_2) ∧ (w'.heap[gb389]? = some (.cells #[.int .i64 a0_0, .int .i64 a0_1, .int .i64 a0_2, .int .i64 a0_3] 23 (0, 0))) ∧ (w'.heap[gb392]? = some (.cells #[.int .i64 x393000_2, .int .i64 x393001_2, .slice Ao40 x393002_2.length co40, .slice Ao41 x393003_2.length co41] 27 (0, 0))) ∧ (w'.heap[s_.2.2]? = some (.cells #[.bool false, .int .i64 0, .int .i64 0, .int .i64 0] 32 (0, 0))) ∧ (w.heap.size ≤ s_.2.2) ∧ (w.heap.size ≤ s_.2.2) ∧ (gb389 ≠ s_.2.2) ∧ (s_.2.2 ≠ gb389) ∧ (gb392 ≠ s_.2.2) ∧ (s_.2.2 ≠ gb392) ∧ (Below w.heap.size w w')) ?_ ?_
                                        rotate_left
                                        · intro hJ8_13
                                          refine join_ (σ := Nat × Nat) 6 #[true, true, true, true, true, true, true, true, false, false, false, false, true, true, false, false] (fun s_ => [(9, .pointer (some ⟨s_.1, 0, none⟩)), (10, .pointer (some ⟨s_.2, 0, none⟩))]) (fun s_ w' => (w'.cell? ⟨gb389, 0, none⟩ = some (.int .i64 a0_0) ∧ w'.cell? ⟨gb389, 1, none⟩ = some (.int .i64 a0_1) ∧ w'.cell? ⟨gb389, 2, none⟩ = some (.int .i64 a0_2) ∧ w'.cell? ⟨gb389, 3, none⟩ = some (.int .i64 a0_3) ∧ w'.cell? ⟨gb392, 0, none⟩ = some (.int .i64 x393000_2) ∧ w'.cell? ⟨gb392, 1, none⟩ = some (.int .i64 x393001_2) ∧ w'.cell? ⟨gb392, 2, none⟩ = some (.slice Ao40 x393002_2.length co40) ∧ w'.cell? ⟨gb392, 3, none⟩ = some (.slice Ao41 x393003_2.length co41) ∧ w'.cell? (ad398.add ((x8_2).toNat * 2)) = some (.int .i64 ((rd_T45 l1 x8_2).f0)) ∧ w'.cell? ⟨(ad398.add ((x8_2).toNat * 2)).block, (ad398.add ((x8_2).toNat * 2)).off + 1, none⟩ = some (.int .i64 ((rd_T45 l1 x8_2).f1))) ∧ (Kd.V (Kd.int .i64) 3 w' w.heap.size (fun k_ => k_ ≠ gb389 ∧ k_ ≠ gb392 ∧ k_ ≠ s_.1 ∧ k_ ≠ s_.2) (.slice Ao40 x393002_2.length co40) x393002_2) ∧ (Kd.V k53 53 w' w.heap.size (fun k_ => k_ ≠ gb389 ∧ k_ ≠ gb392 ∧ k_ ≠ s_.1 ∧ k_ ≠ s_.2) (.slice Ao41 x393003_2.length co41) x393003_2) ∧ (w'.heap[gb389]? = some (.cells #[.int .i64 a0_0, .int .i64 a0_1, .int .i64 a0_2, .int .i64 a0_3] 23 (0, 0))) ∧ (w'.heap[gb392]? = some (.cells #[.int .i64 x393000_2, .int .i64 x393001_2, .slice Ao40 x393002_2.length co40, .slice Ao41 x393003_2.length co41] 27 (0, 0))) ∧ (w'.heap[s_.1]? = some (.cells #[.int .i64 0, .int .i64 0, .slice none 0 0, .slice none 0 0] 27 (0, 0))) ∧ (w'.heap[s_.2]? = some (.cells #[.bool false, .int .i64 0, .int .i64 0, .int .i64 0] 32 (0, 0))) ∧ (w.heap.size ≤ s_.1) ∧ (w.heap.size ≤ s_.1) ∧ (gb389 ≠ s_.1) ∧ (s_.1 ≠ gb389) ∧ (gb392 ≠ s_.1) ∧ (s_.1 ≠ gb392) ∧ (s_.2 ≠ s_.1) ∧ (s_.1 ≠ s_.2) ∧ (w.heap.size ≤ s_.2) ∧ (w.heap.size ≤ s_.2) ∧ (gb389 ≠ s_.2) ∧ (s_.2 ≠ gb389) ∧ (gb392 ≠ s_.2) ∧ (s_.2 ≠ gb392) ∧ (Below w.heap.size w w')) ?_ ?_
                                          rotate_left
                                          · intro hJ12_13
                                            refine join_ (σ := Value × Value) 4 #[true, true, true, true, true, true, true, true, true, true, true, true, false, false, false, false] (fun s_ => [(87, .tuple #[.agg #[.int .i64 t401, .int .i64 t402, s_.1, s_.2], .agg #[.bool t409, .int .i64 t410, .int .i64 t411, .int .i64 t412]]), (78, .tuple #[.agg #[.int .i64 t401, .int .i64 t402, s_.1, s_.2], .agg #[.bool t409, .int .i64 t410, .int .i64 t411, .int .i64 t412]]), (88, .agg #[.int .i64 t401, .int .i64 t402, s_.1, s_.2]), (89, .agg #[.bool t409, .int .i64 t410, .int .i64 t411, .int .i64 t412])]) (fun s_ w' => (w'.cell? ⟨gb389, 0, none⟩ = some (.int .i64 a0_0) ∧ w'.cell? ⟨gb389, 1, none⟩ = some (.int .i64 a0_1) ∧ w'.cell? ⟨gb389, 2, none⟩ = some (.int .i64 a0_2) ∧ w'.cell? ⟨gb389, 3, none⟩ = some (.int .i64 a0_3) ∧ w'.cell? ⟨gb392, 0, none⟩ = some (.int .i64 x393000_2) ∧ w'.cell? ⟨gb392, 1, none⟩ = some (.int .i64 x393001_2) ∧ w'.cell? ⟨gb392, 2, none⟩ = some (.slice Ao40 x393002_2.length co40) ∧ w'.cell? ⟨gb392, 3, none⟩ = some (.slice Ao41 x393003_2.length co41) ∧ w'.cell? (ad398.add ((x8_2).toNat * 2)) = some (.int .i64 ((rd_T45 l1 x8_2).f0)) ∧ w'.cell? ⟨(ad398.add ((x8_2).toNat * 2)).block, (ad398.add ((x8_2).toNat * 2)).off + 1, none⟩ = some (.int .i64 ((rd_T45 l1 x8_2).f1))) ∧ (Kd.V (Kd.int .i64) 3 w' w.heap.size (fun k_ => k_ ≠ gb389 ∧ k_ ≠ gb392) s_.1 t403) ∧ (Kd.V k53 53 w' w.heap.size (fun k_ => k_ ≠ gb389 ∧ k_ ≠ gb392) s_.2 t406) ∧ (Kd.V (Kd.int .i64) 3 w' w.heap.size (fun k_ => k_ ≠ gb389 ∧ k_ ≠ gb392) (.slice Ao40 x393002_2.length co40) x393002_2) ∧ (Kd.V k53 53 w' w.heap.size (fun k_ => k_ ≠ gb389 ∧ k_ ≠ gb392) (.slice Ao41 x393003_2.length co41) x393003_2) ∧ (w'.heap[gb389]? = some (.cells #[.int .i64 a0_0, .int .i64 a0_1, .int .i64 a0_2, .int .i64 a0_3] 23 (0, 0))) ∧ (w'.heap[gb392]? = some (.cells #[.int .i64 x393000_2, .int .i64 x393001_2, .slice Ao40 x393002_2.length co40, .slice Ao41 x393003_2.length co41] 27 (0, 0))) ∧ (Below w.heap.size w w')) ?_ ?_
                                            rotate_left
                                            · intro hJ8
                                              refine join_ (σ := Nat) 7 #[true, true, true, true, true, true, true, true, false, false, false, false, true, false, false, false] (fun s_ => [(9, .pointer (some ⟨s_, 0, none⟩))]) (fun s_ w' => (w'.cell? ⟨gb389, 0, none⟩ = some (.int .i64 a0_0) ∧ w'.cell? ⟨gb389, 1, none⟩ = some (.int .i64 a0_1) ∧ w'.cell? ⟨gb389, 2, none⟩ = some (.int .i64 a0_2) ∧ w'.cell? ⟨gb389, 3, none⟩ = some (.int .i64 a0_3) ∧ w'.cell? ⟨gb392, 0, none⟩ = some (.int .i64 x393000_2) ∧ w'.cell? ⟨gb392, 1, none⟩ = some (.int .i64 x393001_2) ∧ w'.cell? ⟨gb392, 2, none⟩ = some (.slice Ao40 x393002_2.length co40) ∧ w'.cell? ⟨gb392, 3, none⟩ = some (.slice Ao41 x393003_2.length co41) ∧ w'.cell? (ad398.add ((x8_2).toNat * 2)) = some (.int .i64 ((rd_T45 l1 x8_2).f0)) ∧ w'.cell? ⟨(ad398.add ((x8_2).toNat * 2)).block, (ad398.add ((x8_2).toNat * 2)).off + 1, none⟩ = some (.int .i64 ((rd_T45 l1 x8_2).f1))) ∧ (Kd.V (Kd.int .i64) 3 w' w.heap.size (fun k_ => k_ ≠ gb389 ∧ k_ ≠ gb392 ∧ k_ ≠ s_) (.slice Ao40 x393002_2.length co40) x393002_2) ∧ (Kd.V k53 53 w' w.heap.size (fun k_ => k_ ≠ gb389 ∧ k_ ≠ gb392 ∧ k_ ≠ s_) (.slice Ao41 x393003_2.length co41) x393003_2) ∧ (w'.heap[gb389]? = some (.cells #[.int .i64 a0_0, .int .i64 a0_1, .int .i64 a0_2, .int .i64 a0_3] 23 (0, 0))) ∧ (w'.heap[gb392]? = some (.cells #[.int .i64 x393000_2, .int .i64 x393001_2, .slice Ao40 x393002_2.length co40, .slice Ao41 x393003_2.length co41] 27 (0, 0))) ∧ (w'.heap[s_]? = some (.cells #[.int .i64 0, .int .i64 0, .slice none 0 0, .slice none 0 0] 27 (0, 0))) ∧ (w.heap.size ≤ s_) ∧ (w.heap.size ≤ s_) ∧ (gb389 ≠ s_) ∧ (s_ ≠ gb389) ∧ (gb392 ≠ s_) ∧ (s_ ≠ gb392) ∧ (Below w.heap.size w w')) ?_ ?_
                                              rotate_left
                                              · intro hJ12
                                                refine join_ (σ := Nat) 7 #[true, true, true, true, true, true, true, true, false, false, false, false, false, true, false, false] (fun s_ => [(10, .pointer (some ⟨s_, 0, none⟩))]) (fun s_ w' => (w'.cell? ⟨gb389, 0, none⟩ = some (.int .i64 a0_0) ∧ w'.cell? ⟨gb389, 1, none⟩ = some (.int .i64 a0_1) ∧ w'.cell? ⟨gb389, 2, none⟩ = some (.int .i64 a0_2) ∧ w'.cell? ⟨gb389, 3, none⟩ = some (.int .i64 a0_3) ∧ w'.cell? ⟨gb392, 0, none⟩ = some (.int .i64 x393000_2) ∧ w'.cell? ⟨gb392, 1, none⟩ = some (.int .i64 x393001_2) ∧ w'.cell? ⟨gb392, 2, none⟩ = some (.slice Ao40 x393002_2.length co40) ∧ w'.cell? ⟨gb392, 3, none⟩ = some (.slice Ao41 x393003_2.length co41) ∧ w'.cell? (ad398.add ((x8_2).toNat * 2)) = some (.int .i64 ((rd_T45 l1 x8_2).f0)) ∧ w'.cell? ⟨(ad398.add ((x8_2).toNat * 2)).block, (ad398.add ((x8_2).toNat * 2)).off + 1, none⟩ = some (.int .i64 ((rd_T45 l1 x8_2).f1))) ∧ (Kd.V (Kd.int .i64) 3 w' w.heap.size (fun k_ => k_ ≠ gb389 ∧ k_ ≠ gb392 ∧ k_ ≠ s_) (.slice Ao40 x393002_2.length co40) x393002_2) ∧ (Kd.V k53 53 w' w.heap.size (fun k_ => k_ ≠ gb389 ∧ k_ ≠ gb392 ∧ k_ ≠ s_) (.slice Ao41 x393003_2.length co41) x393003_2) ∧ (w'.heap[gb389]? = some (.cells #[.int .i64 a0_0, .int .i64 a0_1, .int .i64 a0_2, .int .i64 a0_3] 23 (0, 0))) ∧ (w'.heap[gb392]? = some (.cells #[.int .i64 x393000_2, .int .i64 x393001_2, .slice Ao40 x393002_2.length co40, .slice Ao41 x393003_2.length co41] 27 (0, 0))) ∧ (w'.heap[s_]? = some (.cells #[.bool false, .int .i64 0, .int .i64 0, .int .i64 0] 32 (0, 0))) ∧ (w.heap.size ≤ s_) ∧ (w.heap.size ≤ s_) ∧ (gb389 ≠ s_) ∧ (s_ ≠ gb389) ∧ (gb392 ≠ s_) ∧ (s_ ≠ gb392) ∧ (Below w.heap.size w w')) ?_ ?_
                                                rotate_left
                                                · intro hJ13
                                                  refine three_ (i := 8) (j := 12) (k := 13) (Ni := some 87) (Nj := some 9) (Nk := some 10) #[true, true, true, true, true, true, true, true, true, false, false, false, false, false, false, false] #[true, true, true, true, true, true, true, true, false, false, false, false, true, false, false, false] #[true, true, true, true, true, true, true, true, false, false, false, false, false, true, false, false] rfl rfl rfl rfl rfl rfl (three_of HT_.out (by kernel_rfl)) (by decide) (by decide) (by decide) (fun K hK => ?_) (fun K hK => ?_) (fun K hK => ?_)
                                                  · skip
                                                    refine goes_ Try.func10 (by kernel_rfl) rfl #[.agg #[.int .i64 a0_0, .int .i64 a0_1, .int .i64 a0_2, .int .i64 a0_3], .agg #[.int .i64 x393000_2, .int .i64 x393001_2, .slice Ao40 x393002_2.length co40, .slice Ao41 x393003_2.length co41], .int .i64 (wrap64 (x6_2 + ((rd_T45 l1 x8_2).f0))), .int .i64 ((rd_T45 l1 x8_2).f1)] (by rfl) rfl rfl (by (try simp only [List.map_toArray, List.map_cons, List.map_nil]); first | done | rfl | (simp only [List.length_drop, List.length_take]; rfl)) ?_
                                                    with_reducible refine (fixed_Ask.calls kj31 a0_0 a0_1 a0_2 a0_3 x393000_2 x393001_2 (fun k_ => (k_ ≠ gb389 ∧ k_ ≠ gb392)) _ _ x393002_2 (fun k_ => (k_ ≠ gb389 ∧ k_ ≠ gb392)) _ _ x393003_2 (wrap64 (x6_2 + ((rd_T45 l1 x8_2).f0))) ((rd_T45 l1 x8_2).f1) t401 t402 t403 t406 t409 t410 t411 t412 _ ?side1 ?side2 A37.out).mono ?_
                                                    (case side1 => exact HO_393002.out)
                                                    (case side2 => exact HO_393003.out)
                                                    rintro e w43 ⟨v404, v407, rfl, ho0, ho1, hb⟩
                                                    refine ⟨_, rfl, ?_⟩
                                                    have HO405 := Aside0.mk (Kd.V_lower (Kd.V_mono (ok' := fun k_ => k_ ≠ gb389 ∧ k_ ≠ gb392) ho0 (fun k_ hk_ => ⟨Or.elim hk_ (fun hs_ => Or.elim hs_ (fun hs_ => hs_.1) (fun hs_ => hs_.1)) (fun hn_ => (Kd.freshB (bo BK389) k_ hn_)), Or.elim hk_ (fun hs_ => Or.elim hs_ (fun hs_ => hs_.2) (fun hs_ => hs_.2)) (fun hn_ => (Kd.freshB (bo BK392) k_ hn_))⟩)) (below_size (bl HB)))
                                                    have HO408 := Aside0.mk (Kd.V_lower (Kd.V_mono (ok' := fun k_ => k_ ≠ gb389 ∧ k_ ≠ gb392) ho1 (fun k_ hk_ => ⟨Or.elim hk_ (fun hs_ => Or.elim hs_ (fun hs_ => hs_.1) (fun hs_ => hs_.1)) (fun hn_ => (Kd.freshB (bo BK389) k_ hn_)), Or.elim hk_ (fun hs_ => Or.elim hs_ (fun hs_ => hs_.2) (fun hs_ => hs_.2)) (fun hn_ => (Kd.freshB (bo BK392) k_ hn_))⟩)) (below_size (bl HB)))
                                                    replace HO_393002 := vb HO_393002 hb
                                                    replace HO_393003 := vb HO_393003 hb
                                                    replace BK389 := Aside0.mk (blk_below (bo BK389) hb)
                                                    replace BK392 := Aside0.mk (blk_below (bo BK392) hb)
                                                    replace HB := Aside0.mk (below_step (bl HB) hb)
                                                    (try clear hb)
                                                    (try clear hb2)
                                                    (try clear hk)
                                                    (try clear hi)
                                                    (try clear ho0)
                                                    (try clear ho1)
                                                    refine hK.out _ _ ⟨(blk_cell BK389.out 0).trans rfl, (blk_cell BK389.out 1).trans rfl, (blk_cell BK389.out 2).trans rfl, (blk_cell BK389.out 3).trans rfl, (blk_cell BK392.out 0).trans rfl, (blk_cell BK392.out 1).trans rfl, (blk_cell BK392.out 2).trans rfl, (blk_cell BK392.out 3).trans rfl, ((HB.out.cell (World.block_lt_of_cell? w _ hw400_0)).trans hw400_0), ((HB.out.cell (World.block_lt_of_cell? w _ hw400_1)).trans hw400_1)⟩ (fun hHeld => ?_)
                                                    clear hK K
                                                    refine norm_ (a' := ?_) ?_ ?_
                                                    rotate_left
                                                    · show Act.put _ (some 87) _ = _
                                                      simp only [Act.put, List.setIfInBounds_toArray, List.set_cons_zero, List.set_cons_succ, i64_w, i32_w]
                                                      rfl
                                                    refine pureA 9 78 HT_ ?_
                                                    refine pureA 10 88 HT_ ?_
                                                    refine pureA 11 89 HT_ ?_
                                                    exact norm_ (by first | (simp only [putAll, Act.put, List.setIfInBounds_toArray, List.set_cons_zero, List.set_cons_succ]; done) | (simp only [putAll, Act.put, List.setIfInBounds_toArray, List.set_cons_zero, List.set_cons_succ]; rfl)) (hJ8 (v404, v407) _ ⟨hHeld, (by (with_reducible repeat (first | apply Kd.V_alloc | apply Kd.V_drewN | apply Kd.V_drew)); exact HO405.out), (by (with_reducible repeat (first | apply Kd.V_alloc | apply Kd.V_drewN | apply Kd.V_drew)); exact HO408.out), (by (with_reducible repeat (first | apply Kd.V_alloc | apply Kd.V_drewN | apply Kd.V_drew)); exact HO_393002.out), (by (with_reducible repeat (first | apply Kd.V_alloc | apply Kd.V_drewN | apply Kd.V_drew)); exact HO_393003.out), (bo BK389), (bo BK392), (bl HB)⟩)
                                                  · skip
                                                    refine box_step ?hg (N := 9) ?hd (cs := #[.int .i64 0, .int .i64 0, .slice none 0 0, .slice none 0 0]) (t := 27) ?hr ?_; (case hd => rfl); (case hg => rfl); (case hr => first | (go_simp; done) | (go_simp; rfl))
                                                    intro gb413 hg w43 hbox hb
                                                    have BK413 := Aside0.mk (hbox)
                                                    have GW413 := Aside0.mk ((by rw [hg]; exact (below_size (bl HB)) : w.heap.size ≤ gb413))
                                                    have GE413 := Aside0.mk ((by rw [hg]; exact (below_size (bl HB)) : w.heap.size ≤ gb413))
                                                    have NB389_413 := nb BK389 hg
                                                    have NB413_389 := bn BK389 hg
                                                    have NB392_413 := nb BK392 hg
                                                    have NB413_392 := bn BK392 hg
                                                    replace HO_393002 := ve HO_393002 hg hb
                                                    replace HO_393003 := ve HO_393003 hg hb
                                                    replace BK389 := Aside0.mk (blk_below (bo BK389) hb)
                                                    replace BK392 := Aside0.mk (blk_below (bo BK392) hb)
                                                    replace HB := Aside0.mk (below_step (bl HB) hb)
                                                    clear hb hbox hg
                                                    refine hK.out _ _ ⟨(blk_cell BK389.out 0).trans rfl, (blk_cell BK389.out 1).trans rfl, (blk_cell BK389.out 2).trans rfl, (blk_cell BK389.out 3).trans rfl, (blk_cell BK392.out 0).trans rfl, (blk_cell BK392.out 1).trans rfl, (blk_cell BK392.out 2).trans rfl, (blk_cell BK392.out 3).trans rfl, ((HB.out.cell (World.block_lt_of_cell? w _ hw400_0)).trans hw400_0), ((HB.out.cell (World.block_lt_of_cell? w _ hw400_1)).trans hw400_1)⟩ (fun hHeld => ?_)
                                                    clear hK K
                                                    refine norm_ (a' := ?_) ?_ ?_
                                                    rotate_left
                                                    · show Act.put _ (some 9) _ = _
                                                      simp only [Act.put, List.setIfInBounds_toArray, List.set_cons_zero, List.set_cons_succ, i64_w, i32_w]
                                                      rfl
                                                    exact norm_ (by first | (simp only [putAll, Act.put, List.setIfInBounds_toArray, List.set_cons_zero, List.set_cons_succ]; done) | (simp only [putAll, Act.put, List.setIfInBounds_toArray, List.set_cons_zero, List.set_cons_succ]; rfl)) (hJ12 (gb413) _ ⟨hHeld, (by (with_reducible repeat (first | apply Kd.V_alloc | apply Kd.V_drewN | apply Kd.V_drew)); exact Kd.V_mono HO_393002.out (fun _ hk => ⟨hk.1.1, ⟨hk.1.2, hk.2⟩⟩)), (by (with_reducible repeat (first | apply Kd.V_alloc | apply Kd.V_drewN | apply Kd.V_drew)); exact Kd.V_mono HO_393003.out (fun _ hk => ⟨hk.1.1, ⟨hk.1.2, hk.2⟩⟩)), (bo BK389), (bo BK392), (bo BK413), GW413.out, GE413.out, NB389_413.out, NB413_389.out, NB392_413.out, NB413_392.out, (bl HB)⟩)
                                                  · skip
                                                    refine box_step ?hg (N := 10) ?hd (cs := #[.bool false, .int .i64 0, .int .i64 0, .int .i64 0]) (t := 32) ?hr ?_; (case hd => rfl); (case hg => rfl); (case hr => first | (go_simp; done) | (go_simp; rfl))
                                                    intro gb414 hg w43 hbox hb
                                                    have BK414 := Aside0.mk (hbox)
                                                    have GW414 := Aside0.mk ((by rw [hg]; exact (below_size (bl HB)) : w.heap.size ≤ gb414))
                                                    have GE414 := Aside0.mk ((by rw [hg]; exact (below_size (bl HB)) : w.heap.size ≤ gb414))
                                                    have NB389_414 := nb BK389 hg
                                                    have NB414_389 := bn BK389 hg
                                                    have NB392_414 := nb BK392 hg
                                                    have NB414_392 := bn BK392 hg
                                                    replace HO_393002 := ve HO_393002 hg hb
                                                    replace HO_393003 := ve HO_393003 hg hb
                                                    replace BK389 := Aside0.mk (blk_below (bo BK389) hb)
                                                    replace BK392 := Aside0.mk (blk_below (bo BK392) hb)
                                                    replace HB := Aside0.mk (below_step (bl HB) hb)
                                                    clear hb hbox hg
                                                    refine hK.out _ _ ⟨(blk_cell BK389.out 0).trans rfl, (blk_cell BK389.out 1).trans rfl, (blk_cell BK389.out 2).trans rfl, (blk_cell BK389.out 3).trans rfl, (blk_cell BK392.out 0).trans rfl, (blk_cell BK392.out 1).trans rfl, (blk_cell BK392.out 2).trans rfl, (blk_cell BK392.out 3).trans rfl, ((HB.out.cell (World.block_lt_of_cell? w _ hw400_0)).trans hw400_0), ((HB.out.cell (World.block_lt_of_cell? w _ hw400_1)).trans hw400_1)⟩ (fun hHeld => ?_)
                                                    clear hK K
                                                    refine norm_ (a' := ?_) ?_ ?_
                                                    rotate_left
                                                    · show Act.put _ (some 10) _ = _
                                                      simp only [Act.put, List.setIfInBounds_toArray, List.set_cons_zero, List.set_cons_succ, i64_w, i32_w]
                                                      rfl
                                                    exact norm_ (by first | (simp only [putAll, Act.put, List.setIfInBounds_toArray, List.set_cons_zero, List.set_cons_succ]; done) | (simp only [putAll, Act.put, List.setIfInBounds_toArray, List.set_cons_zero, List.set_cons_succ]; rfl)) (hJ13 (gb414) _ ⟨hHeld, (by (with_reducible repeat (first | apply Kd.V_alloc | apply Kd.V_drewN | apply Kd.V_drew)); exact Kd.V_mono HO_393002.out (fun _ hk => ⟨hk.1.1, ⟨hk.1.2, hk.2⟩⟩)), (by (with_reducible repeat (first | apply Kd.V_alloc | apply Kd.V_drewN | apply Kd.V_drew)); exact Kd.V_mono HO_393003.out (fun _ hk => ⟨hk.1.1, ⟨hk.1.2, hk.2⟩⟩)), (bo BK389), (bo BK392), (bo BK414), GW414.out, GE414.out, NB389_414.out, NB414_389.out, NB392_414.out, NB414_392.out, (bl HB)⟩)
                                                · skip
                                                  rintro gb414 w44 ⟨hS_, h0_, h1_, h2_, h3_, h4_, h5_, h6_, h7_, h8_, h9_, h10_, h11_⟩
                                                  have BK414 : Aside0 (w44.heap[gb414]? = some (.cells #[.bool false, .int .i64 0, .int .i64 0, .int .i64 0] 32 (0, 0))) := ⟨h4_⟩
                                                  have GW414 : Aside0 (w.heap.size ≤ gb414) := ⟨h5_⟩
                                                  have GE414 : Aside0 (w.heap.size ≤ gb414) := ⟨h6_⟩
                                                  have NB389_414 : Aside0 (gb389 ≠ gb414) := ⟨h7_⟩
                                                  have NB414_389 : Aside0 (gb414 ≠ gb389) := ⟨h8_⟩
                                                  have NB392_414 : Aside0 (gb392 ≠ gb414) := ⟨h9_⟩
                                                  have NB414_392 : Aside0 (gb414 ≠ gb392) := ⟨h10_⟩
                                                  replace HO_393002 : Aside0 (Kd.V (Kd.int .i64) 3 w44 w.heap.size (fun k_ => k_ ≠ gb389 ∧ k_ ≠ gb392 ∧ k_ ≠ gb414) (.slice Ao40 x393002_2.length co40) x393002_2) := ⟨h0_⟩
                                                  replace HO_393003 : Aside0 (Kd.V k53 53 w44 w.heap.size (fun k_ => k_ ≠ gb389 ∧ k_ ≠ gb392 ∧ k_ ≠ gb414) (.slice Ao41 x393003_2.length co41) x393003_2) := ⟨h1_⟩
                                                  replace BK389 : Aside0 (w44.heap[gb389]? = some (.cells #[.int .i64 a0_0, .int .i64 a0_1, .int .i64 a0_2, .int .i64 a0_3] 23 (0, 0))) := ⟨h2_⟩
                                                  replace BK392 : Aside0 (w44.heap[gb392]? = some (.cells #[.int .i64 x393000_2, .int .i64 x393001_2, .slice Ao40 x393002_2.length co40, .slice Ao41 x393003_2.length co41] 27 (0, 0))) := ⟨h3_⟩
                                                  replace HB : Aside0 (Below w.heap.size w w44) := ⟨h11_⟩
                                                  clear h0_ h1_ h2_ h3_ h4_ h5_ h6_ h7_ h8_ h9_ h10_ h11_
                                                  have hHeld : w44.cell? ⟨gb389, 0, none⟩ = some (.int .i64 a0_0) ∧ w44.cell? ⟨gb389, 1, none⟩ = some (.int .i64 a0_1) ∧ w44.cell? ⟨gb389, 2, none⟩ = some (.int .i64 a0_2) ∧ w44.cell? ⟨gb389, 3, none⟩ = some (.int .i64 a0_3) ∧ w44.cell? ⟨gb392, 0, none⟩ = some (.int .i64 x393000_2) ∧ w44.cell? ⟨gb392, 1, none⟩ = some (.int .i64 x393001_2) ∧ w44.cell? ⟨gb392, 2, none⟩ = some (.slice Ao40 x393002_2.length co40) ∧ w44.cell? ⟨gb392, 3, none⟩ = some (.slice Ao41 x393003_2.length co41) ∧ w44.cell? (ad398.add ((x8_2).toNat * 2)) = some (.int .i64 ((rd_T45 l1 x8_2).f0)) ∧ w44.cell? ⟨(ad398.add ((x8_2).toNat * 2)).block, (ad398.add ((x8_2).toNat * 2)).off + 1, none⟩ = some (.int .i64 ((rd_T45 l1 x8_2).f1)) := hS_
                                                  refine norm_ (a' := ?_) ?_ ?_
                                                  rotate_left
                                                  · simp only [putAll, Act.put, List.setIfInBounds_toArray, List.set_cons_zero, List.set_cons_succ]
                                                    rfl
                                                  refine two_ (i := 8) (j := 12) (Ni := some 87) (Nj := some 9) #[true, true, true, true, true, true, true, true, true, false, false, false, false, true, false, false] #[true, true, true, true, true, true, true, true, false, false, false, false, true, true, false, false] rfl rfl rfl rfl (two_of HT_.out (by kernel_rfl)) (by decide) (by decide) (fun K hK => ?_) (fun K hK => ?_)
                                                  · skip
                                                    refine goes_ Try.func10 (by kernel_rfl) rfl #[.agg #[.int .i64 a0_0, .int .i64 a0_1, .int .i64 a0_2, .int .i64 a0_3], .agg #[.int .i64 x393000_2, .int .i64 x393001_2, .slice Ao40 x393002_2.length co40, .slice Ao41 x393003_2.length co41], .int .i64 (wrap64 (x6_2 + ((rd_T45 l1 x8_2).f0))), .int .i64 ((rd_T45 l1 x8_2).f1)] (by rfl) rfl rfl (by (try simp only [List.map_toArray, List.map_cons, List.map_nil]); first | done | rfl | (simp only [List.length_drop, List.length_take]; rfl)) ?_
                                                    with_reducible refine (fixed_Ask.calls kj31 a0_0 a0_1 a0_2 a0_3 x393000_2 x393001_2 (fun k_ => (k_ ≠ gb389 ∧ (k_ ≠ gb392 ∧ k_ ≠ gb414))) _ _ x393002_2 (fun k_ => (k_ ≠ gb389 ∧ (k_ ≠ gb392 ∧ k_ ≠ gb414))) _ _ x393003_2 (wrap64 (x6_2 + ((rd_T45 l1 x8_2).f0))) ((rd_T45 l1 x8_2).f1) t401 t402 t403 t406 t409 t410 t411 t412 _ ?side1 ?side2 A37.out).mono ?_
                                                    (case side1 => exact HO_393002.out)
                                                    (case side2 => exact HO_393003.out)
                                                    rintro e w45 ⟨v404, v407, rfl, ho0, ho1, hb⟩
                                                    refine ⟨_, rfl, ?_⟩
                                                    have HO405 := Aside0.mk (Kd.V_lower (Kd.V_mono (ok' := fun k_ => k_ ≠ gb389 ∧ k_ ≠ gb392 ∧ k_ ≠ gb414) ho0 (fun k_ hk_ => ⟨Or.elim hk_ (fun hs_ => Or.elim hs_ (fun hs_ => hs_.1) (fun hs_ => hs_.1)) (fun hn_ => (Kd.freshB (bo BK389) k_ hn_)), Or.elim hk_ (fun hs_ => Or.elim hs_ (fun hs_ => hs_.2.1) (fun hs_ => hs_.2.1)) (fun hn_ => (Kd.freshB (bo BK392) k_ hn_)), Or.elim hk_ (fun hs_ => Or.elim hs_ (fun hs_ => hs_.2.2) (fun hs_ => hs_.2.2)) (fun hn_ => (Kd.freshB (bo BK414) k_ hn_))⟩)) (below_size (bl HB)))
                                                    have HO408 := Aside0.mk (Kd.V_lower (Kd.V_mono (ok' := fun k_ => k_ ≠ gb389 ∧ k_ ≠ gb392 ∧ k_ ≠ gb414) ho1 (fun k_ hk_ => ⟨Or.elim hk_ (fun hs_ => Or.elim hs_ (fun hs_ => hs_.1) (fun hs_ => hs_.1)) (fun hn_ => (Kd.freshB (bo BK389) k_ hn_)), Or.elim hk_ (fun hs_ => Or.elim hs_ (fun hs_ => hs_.2.1) (fun hs_ => hs_.2.1)) (fun hn_ => (Kd.freshB (bo BK392) k_ hn_)), Or.elim hk_ (fun hs_ => Or.elim hs_ (fun hs_ => hs_.2.2) (fun hs_ => hs_.2.2)) (fun hn_ => (Kd.freshB (bo BK414) k_ hn_))⟩)) (below_size (bl HB)))
                                                    replace HO_393002 := vb HO_393002 hb
                                                    replace HO_393003 := vb HO_393003 hb
                                                    replace BK389 := Aside0.mk (blk_below (bo BK389) hb)
                                                    replace BK392 := Aside0.mk (blk_below (bo BK392) hb)
                                                    replace BK414 := Aside0.mk (blk_below (bo BK414) hb)
                                                    replace HB := Aside0.mk (below_step (bl HB) hb)
                                                    (try clear hb)
                                                    (try clear hb2)
                                                    (try clear hk)
                                                    (try clear hi)
                                                    (try clear ho0)
                                                    (try clear ho1)
                                                    refine hK.out _ _ ⟨(blk_cell BK389.out 0).trans rfl, (blk_cell BK389.out 1).trans rfl, (blk_cell BK389.out 2).trans rfl, (blk_cell BK389.out 3).trans rfl, (blk_cell BK392.out 0).trans rfl, (blk_cell BK392.out 1).trans rfl, (blk_cell BK392.out 2).trans rfl, (blk_cell BK392.out 3).trans rfl, ((HB.out.cell (World.block_lt_of_cell? w _ hw400_0)).trans hw400_0), ((HB.out.cell (World.block_lt_of_cell? w _ hw400_1)).trans hw400_1)⟩ (fun hHeld => ?_)
                                                    clear hK K
                                                    refine norm_ (a' := ?_) ?_ ?_
                                                    rotate_left
                                                    · show Act.put _ (some 87) _ = _
                                                      simp only [Act.put, List.setIfInBounds_toArray, List.set_cons_zero, List.set_cons_succ, i64_w, i32_w]
                                                      rfl
                                                    refine pureA 9 78 HT_ ?_
                                                    refine pureA 10 88 HT_ ?_
                                                    refine pureA 11 89 HT_ ?_
                                                    exact norm_ (by first | (simp only [putAll, Act.put, List.setIfInBounds_toArray, List.set_cons_zero, List.set_cons_succ]; done) | (simp only [putAll, Act.put, List.setIfInBounds_toArray, List.set_cons_zero, List.set_cons_succ]; rfl)) (hJ8_13 (v404, v407, gb414) _ ⟨hHeld, (by (with_reducible repeat (first | apply Kd.V_alloc | apply Kd.V_drewN | apply Kd.V_drew)); exact HO405.out), (by (with_reducible repeat (first | apply Kd.V_alloc | apply Kd.V_drewN | apply Kd.V_drew)); exact HO408.out), (by (with_reducible repeat (first | apply Kd.V_alloc | apply Kd.V_drewN | apply Kd.V_drew)); exact HO_393002.out), (by (with_reducible repeat (first | apply Kd.V_alloc | apply Kd.V_drewN | apply Kd.V_drew)); exact HO_393003.out), (bo BK389), (bo BK392), (bo BK414), GW414.out, GE414.out, NB389_414.out, NB414_389.out, NB392_414.out, NB414_392.out, (bl HB)⟩)
                                                  · skip
                                                    refine box_step ?hg (N := 9) ?hd (cs := #[.int .i64 0, .int .i64 0, .slice none 0 0, .slice none 0 0]) (t := 27) ?hr ?_; (case hd => rfl); (case hg => rfl); (case hr => first | (go_simp; done) | (go_simp; rfl))
                                                    intro gb413 hg w45 hbox hb
                                                    have BK413 := Aside0.mk (hbox)
                                                    have GW413 := Aside0.mk ((by rw [hg]; exact (below_size (bl HB)) : w.heap.size ≤ gb413))
                                                    have GE413 := Aside0.mk ((by rw [hg]; exact (below_size (bl HB)) : w.heap.size ≤ gb413))
                                                    have NB389_413 := nb BK389 hg
                                                    have NB413_389 := bn BK389 hg
                                                    have NB392_413 := nb BK392 hg
                                                    have NB413_392 := bn BK392 hg
                                                    have NB414_413 := nb BK414 hg
                                                    have NB413_414 := bn BK414 hg
                                                    replace HO_393002 := ve HO_393002 hg hb
                                                    replace HO_393003 := ve HO_393003 hg hb
                                                    replace BK389 := Aside0.mk (blk_below (bo BK389) hb)
                                                    replace BK392 := Aside0.mk (blk_below (bo BK392) hb)
                                                    replace BK414 := Aside0.mk (blk_below (bo BK414) hb)
                                                    replace HB := Aside0.mk (below_step (bl HB) hb)
                                                    clear hb hbox hg
                                                    refine hK.out _ _ ⟨(blk_cell BK389.out 0).trans rfl, (blk_cell BK389.out 1).trans rfl, (blk_cell BK389.out 2).trans rfl, (blk_cell BK389.out 3).trans rfl, (blk_cell BK392.out 0).trans rfl, (blk_cell BK392.out 1).trans rfl, (blk_cell BK392.out 2).trans rfl, (blk_cell BK392.out 3).trans rfl, ((HB.out.cell (World.block_lt_of_cell? w _ hw400_0)).trans hw400_0), ((HB.out.cell (World.block_lt_of_cell? w _ hw400_1)).trans hw400_1)⟩ (fun hHeld => ?_)
                                                    clear hK K
                                                    refine norm_ (a' := ?_) ?_ ?_
                                                    rotate_left
                                                    · show Act.put _ (some 9) _ = _
                                                      simp only [Act.put, List.setIfInBounds_toArray, List.set_cons_zero, List.set_cons_succ, i64_w, i32_w]
                                                      rfl
                                                    exact norm_ (by first | (simp only [putAll, Act.put, List.setIfInBounds_toArray, List.set_cons_zero, List.set_cons_succ]; done) | (simp only [putAll, Act.put, List.setIfInBounds_toArray, List.set_cons_zero, List.set_cons_succ]; rfl)) (hJ12_13 (gb413, gb414) _ ⟨hHeld, (by (with_reducible repeat (first | apply Kd.V_alloc | apply Kd.V_drewN | apply Kd.V_drew)); exact Kd.V_mono HO_393002.out (fun _ hk => ⟨hk.1.1, ⟨hk.1.2.1, ⟨hk.2, hk.1.2.2⟩⟩⟩)), (by (with_reducible repeat (first | apply Kd.V_alloc | apply Kd.V_drewN | apply Kd.V_drew)); exact Kd.V_mono HO_393003.out (fun _ hk => ⟨hk.1.1, ⟨hk.1.2.1, ⟨hk.2, hk.1.2.2⟩⟩⟩)), (bo BK389), (bo BK392), (bo BK413), (bo BK414), GW413.out, GE413.out, NB389_413.out, NB413_389.out, NB392_413.out, NB413_392.out, NB414_413.out, NB413_414.out, GW414.out, GE414.out, NB389_414.out, NB414_389.out, NB392_414.out, NB414_392.out, (bl HB)⟩)
                                              · skip
                                                rintro gb413 w44 ⟨hS_, h0_, h1_, h2_, h3_, h4_, h5_, h6_, h7_, h8_, h9_, h10_, h11_⟩
                                                have BK413 : Aside0 (w44.heap[gb413]? = some (.cells #[.int .i64 0, .int .i64 0, .slice none 0 0, .slice none 0 0] 27 (0, 0))) := ⟨h4_⟩
                                                have GW413 : Aside0 (w.heap.size ≤ gb413) := ⟨h5_⟩
                                                have GE413 : Aside0 (w.heap.size ≤ gb413) := ⟨h6_⟩
                                                have NB389_413 : Aside0 (gb389 ≠ gb413) := ⟨h7_⟩
                                                have NB413_389 : Aside0 (gb413 ≠ gb389) := ⟨h8_⟩
                                                have NB392_413 : Aside0 (gb392 ≠ gb413) := ⟨h9_⟩
                                                have NB413_392 : Aside0 (gb413 ≠ gb392) := ⟨h10_⟩
                                                replace HO_393002 : Aside0 (Kd.V (Kd.int .i64) 3 w44 w.heap.size (fun k_ => k_ ≠ gb389 ∧ k_ ≠ gb392 ∧ k_ ≠ gb413) (.slice Ao40 x393002_2.length co40) x393002_2) := ⟨h0_⟩
                                                replace HO_393003 : Aside0 (Kd.V k53 53 w44 w.heap.size (fun k_ => k_ ≠ gb389 ∧ k_ ≠ gb392 ∧ k_ ≠ gb413) (.slice Ao41 x393003_2.length co41) x393003_2) := ⟨h1_⟩
                                                replace BK389 : Aside0 (w44.heap[gb389]? = some (.cells #[.int .i64 a0_0, .int .i64 a0_1, .int .i64 a0_2, .int .i64 a0_3] 23 (0, 0))) := ⟨h2_⟩
                                                replace BK392 : Aside0 (w44.heap[gb392]? = some (.cells #[.int .i64 x393000_2, .int .i64 x393001_2, .slice Ao40 x393002_2.length co40, .slice Ao41 x393003_2.length co41] 27 (0, 0))) := ⟨h3_⟩
                                                replace HB : Aside0 (Below w.heap.size w w44) := ⟨h11_⟩
                                                clear h0_ h1_ h2_ h3_ h4_ h5_ h6_ h7_ h8_ h9_ h10_ h11_
                                                have hHeld : w44.cell? ⟨gb389, 0, none⟩ = some (.int .i64 a0_0) ∧ w44.cell? ⟨gb389, 1, none⟩ = some (.int .i64 a0_1) ∧ w44.cell? ⟨gb389, 2, none⟩ = some (.int .i64 a0_2) ∧ w44.cell? ⟨gb389, 3, none⟩ = some (.int .i64 a0_3) ∧ w44.cell? ⟨gb392, 0, none⟩ = some (.int .i64 x393000_2) ∧ w44.cell? ⟨gb392, 1, none⟩ = some (.int .i64 x393001_2) ∧ w44.cell? ⟨gb392, 2, none⟩ = some (.slice Ao40 x393002_2.length co40) ∧ w44.cell? ⟨gb392, 3, none⟩ = some (.slice Ao41 x393003_2.length co41) ∧ w44.cell? (ad398.add ((x8_2).toNat * 2)) = some (.int .i64 ((rd_T45 l1 x8_2).f0)) ∧ w44.cell? ⟨(ad398.add ((x8_2).toNat * 2)).block, (ad398.add ((x8_2).toNat * 2)).off + 1, none⟩ = some (.int .i64 ((rd_T45 l1 x8_2).f1)) := hS_
                                                refine norm_ (a' := ?_) ?_ ?_
                                                rotate_left
                                                · simp only [putAll, Act.put, List.setIfInBounds_toArray, List.set_cons_zero, List.set_cons_succ]
                                                  rfl
                                                refine two_ (i := 8) (j := 13) (Ni := some 87) (Nj := some 10) #[true, true, true, true, true, true, true, true, true, false, false, false, true, false, false, false] #[true, true, true, true, true, true, true, true, false, false, false, false, true, true, false, false] rfl rfl rfl rfl (two_of HT_.out (by kernel_rfl)) (by decide) (by decide) (fun K hK => ?_) (fun K hK => ?_)
                                                · skip
                                                  refine goes_ Try.func10 (by kernel_rfl) rfl #[.agg #[.int .i64 a0_0, .int .i64 a0_1, .int .i64 a0_2, .int .i64 a0_3], .agg #[.int .i64 x393000_2, .int .i64 x393001_2, .slice Ao40 x393002_2.length co40, .slice Ao41 x393003_2.length co41], .int .i64 (wrap64 (x6_2 + ((rd_T45 l1 x8_2).f0))), .int .i64 ((rd_T45 l1 x8_2).f1)] (by rfl) rfl rfl (by (try simp only [List.map_toArray, List.map_cons, List.map_nil]); first | done | rfl | (simp only [List.length_drop, List.length_take]; rfl)) ?_
                                                  with_reducible refine (fixed_Ask.calls kj31 a0_0 a0_1 a0_2 a0_3 x393000_2 x393001_2 (fun k_ => (k_ ≠ gb389 ∧ (k_ ≠ gb392 ∧ k_ ≠ gb413))) _ _ x393002_2 (fun k_ => (k_ ≠ gb389 ∧ (k_ ≠ gb392 ∧ k_ ≠ gb413))) _ _ x393003_2 (wrap64 (x6_2 + ((rd_T45 l1 x8_2).f0))) ((rd_T45 l1 x8_2).f1) t401 t402 t403 t406 t409 t410 t411 t412 _ ?side1 ?side2 A37.out).mono ?_
                                                  (case side1 => exact HO_393002.out)
                                                  (case side2 => exact HO_393003.out)
                                                  rintro e w45 ⟨v404, v407, rfl, ho0, ho1, hb⟩
                                                  refine ⟨_, rfl, ?_⟩
                                                  have HO405 := Aside0.mk (Kd.V_lower (Kd.V_mono (ok' := fun k_ => k_ ≠ gb389 ∧ k_ ≠ gb392 ∧ k_ ≠ gb413) ho0 (fun k_ hk_ => ⟨Or.elim hk_ (fun hs_ => Or.elim hs_ (fun hs_ => hs_.1) (fun hs_ => hs_.1)) (fun hn_ => (Kd.freshB (bo BK389) k_ hn_)), Or.elim hk_ (fun hs_ => Or.elim hs_ (fun hs_ => hs_.2.1) (fun hs_ => hs_.2.1)) (fun hn_ => (Kd.freshB (bo BK392) k_ hn_)), Or.elim hk_ (fun hs_ => Or.elim hs_ (fun hs_ => hs_.2.2) (fun hs_ => hs_.2.2)) (fun hn_ => (Kd.freshB (bo BK413) k_ hn_))⟩)) (below_size (bl HB)))
                                                  have HO408 := Aside0.mk (Kd.V_lower (Kd.V_mono (ok' := fun k_ => k_ ≠ gb389 ∧ k_ ≠ gb392 ∧ k_ ≠ gb413) ho1 (fun k_ hk_ => ⟨Or.elim hk_ (fun hs_ => Or.elim hs_ (fun hs_ => hs_.1) (fun hs_ => hs_.1)) (fun hn_ => (Kd.freshB (bo BK389) k_ hn_)), Or.elim hk_ (fun hs_ => Or.elim hs_ (fun hs_ => hs_.2.1) (fun hs_ => hs_.2.1)) (fun hn_ => (Kd.freshB (bo BK392) k_ hn_)), Or.elim hk_ (fun hs_ => Or.elim hs_ (fun hs_ => hs_.2.2) (fun hs_ => hs_.2.2)) (fun hn_ => (Kd.freshB (bo BK413) k_ hn_))⟩)) (below_size (bl HB)))
                                                  replace HO_393002 := vb HO_393002 hb
                                                  replace HO_393003 := vb HO_393003 hb
                                                  replace BK389 := Aside0.mk (blk_below (bo BK389) hb)
                                                  replace BK392 := Aside0.mk (blk_below (bo BK392) hb)
                                                  replace BK413 := Aside0.mk (blk_below (bo BK413) hb)
                                                  replace HB := Aside0.mk (below_step (bl HB) hb)
                                                  (try clear hb)
                                                  (try clear hb2)
                                                  (try clear hk)
                                                  (try clear hi)
                                                  (try clear ho0)
                                                  (try clear ho1)
                                                  refine hK.out _ _ ⟨(blk_cell BK389.out 0).trans rfl, (blk_cell BK389.out 1).trans rfl, (blk_cell BK389.out 2).trans rfl, (blk_cell BK389.out 3).trans rfl, (blk_cell BK392.out 0).trans rfl, (blk_cell BK392.out 1).trans rfl, (blk_cell BK392.out 2).trans rfl, (blk_cell BK392.out 3).trans rfl, ((HB.out.cell (World.block_lt_of_cell? w _ hw400_0)).trans hw400_0), ((HB.out.cell (World.block_lt_of_cell? w _ hw400_1)).trans hw400_1)⟩ (fun hHeld => ?_)
                                                  clear hK K
                                                  refine norm_ (a' := ?_) ?_ ?_
                                                  rotate_left
                                                  · show Act.put _ (some 87) _ = _
                                                    simp only [Act.put, List.setIfInBounds_toArray, List.set_cons_zero, List.set_cons_succ, i64_w, i32_w]
                                                    rfl
                                                  refine pureA 9 78 HT_ ?_
                                                  refine pureA 10 88 HT_ ?_
                                                  refine pureA 11 89 HT_ ?_
                                                  exact norm_ (by first | (simp only [putAll, Act.put, List.setIfInBounds_toArray, List.set_cons_zero, List.set_cons_succ]; done) | (simp only [putAll, Act.put, List.setIfInBounds_toArray, List.set_cons_zero, List.set_cons_succ]; rfl)) (hJ8_12 (v404, v407, gb413) _ ⟨hHeld, (by (with_reducible repeat (first | apply Kd.V_alloc | apply Kd.V_drewN | apply Kd.V_drew)); exact HO405.out), (by (with_reducible repeat (first | apply Kd.V_alloc | apply Kd.V_drewN | apply Kd.V_drew)); exact HO408.out), (by (with_reducible repeat (first | apply Kd.V_alloc | apply Kd.V_drewN | apply Kd.V_drew)); exact HO_393002.out), (by (with_reducible repeat (first | apply Kd.V_alloc | apply Kd.V_drewN | apply Kd.V_drew)); exact HO_393003.out), (bo BK389), (bo BK392), (bo BK413), GW413.out, GE413.out, NB389_413.out, NB413_389.out, NB392_413.out, NB413_392.out, (bl HB)⟩)
                                                · skip
                                                  refine box_step ?hg (N := 10) ?hd (cs := #[.bool false, .int .i64 0, .int .i64 0, .int .i64 0]) (t := 32) ?hr ?_; (case hd => rfl); (case hg => rfl); (case hr => first | (go_simp; done) | (go_simp; rfl))
                                                  intro gb414 hg w45 hbox hb
                                                  have BK414 := Aside0.mk (hbox)
                                                  have GW414 := Aside0.mk ((by rw [hg]; exact (below_size (bl HB)) : w.heap.size ≤ gb414))
                                                  have GE414 := Aside0.mk ((by rw [hg]; exact (below_size (bl HB)) : w.heap.size ≤ gb414))
                                                  have NB389_414 := nb BK389 hg
                                                  have NB414_389 := bn BK389 hg
                                                  have NB392_414 := nb BK392 hg
                                                  have NB414_392 := bn BK392 hg
                                                  have NB413_414 := nb BK413 hg
                                                  have NB414_413 := bn BK413 hg
                                                  replace HO_393002 := ve HO_393002 hg hb
                                                  replace HO_393003 := ve HO_393003 hg hb
                                                  replace BK389 := Aside0.mk (blk_below (bo BK389) hb)
                                                  replace BK392 := Aside0.mk (blk_below (bo BK392) hb)
                                                  replace BK413 := Aside0.mk (blk_below (bo BK413) hb)
                                                  replace HB := Aside0.mk (below_step (bl HB) hb)
                                                  clear hb hbox hg
                                                  refine hK.out _ _ ⟨(blk_cell BK389.out 0).trans rfl, (blk_cell BK389.out 1).trans rfl, (blk_cell BK389.out 2).trans rfl, (blk_cell BK389.out 3).trans rfl, (blk_cell BK392.out 0).trans rfl, (blk_cell BK392.out 1).trans rfl, (blk_cell BK392.out 2).trans rfl, (blk_cell BK392.out 3).trans rfl, ((HB.out.cell (World.block_lt_of_cell? w _ hw400_0)).trans hw400_0), ((HB.out.cell (World.block_lt_of_cell? w _ hw400_1)).trans hw400_1)⟩ (fun hHeld => ?_)
                                                  clear hK K
                                                  refine norm_ (a' := ?_) ?_ ?_
                                                  rotate_left
                                                  · show Act.put _ (some 10) _ = _
                                                    simp only [Act.put, List.setIfInBounds_toArray, List.set_cons_zero, List.set_cons_succ, i64_w, i32_w]
                                                    rfl
                                                  exact norm_ (by first | (simp only [putAll, Act.put, List.setIfInBounds_toArray, List.set_cons_zero, List.set_cons_succ]; done) | (simp only [putAll, Act.put, List.setIfInBounds_toArray, List.set_cons_zero, List.set_cons_succ]; rfl)) (hJ12_13 (gb413, gb414) _ ⟨hHeld, (by (with_reducible repeat (first | apply Kd.V_alloc | apply Kd.V_drewN | apply Kd.V_drew)); exact Kd.V_mono HO_393002.out (fun _ hk => ⟨hk.1.1, ⟨hk.1.2.1, ⟨hk.1.2.2, hk.2⟩⟩⟩)), (by (with_reducible repeat (first | apply Kd.V_alloc | apply Kd.V_drewN | apply Kd.V_drew)); exact Kd.V_mono HO_393003.out (fun _ hk => ⟨hk.1.1, ⟨hk.1.2.1, ⟨hk.1.2.2, hk.2⟩⟩⟩)), (bo BK389), (bo BK392), (bo BK413), (bo BK414), GW413.out, GE413.out, NB389_413.out, NB413_389.out, NB392_413.out, NB413_392.out, NB414_413.out, NB413_414.out, GW414.out, GE414.out, NB389_414.out, NB414_389.out, NB392_414.out, NB414_392.out, (bl HB)⟩)
                                            · skip
                                              rintro ⟨v404, v407⟩ w44 ⟨hS_, h0_, h1_, h2_, h3_, h4_, h5_, h6_⟩
                                              have HO405 : Aside0 (Kd.V (Kd.int .i64) 3 w44 w.heap.size (fun k_ => k_ ≠ gb389 ∧ k_ ≠ gb392) v404 t403) := ⟨h0_⟩
                                              have HO408 : Aside0 (Kd.V k53 53 w44 w.heap.size (fun k_ => k_ ≠ gb389 ∧ k_ ≠ gb392) v407 t406) := ⟨h1_⟩
                                              replace HO_393002 : Aside0 (Kd.V (Kd.int .i64) 3 w44 w.heap.size (fun k_ => k_ ≠ gb389 ∧ k_ ≠ gb392) (.slice Ao40 x393002_2.length co40) x393002_2) := ⟨h2_⟩
                                              replace HO_393003 : Aside0 (Kd.V k53 53 w44 w.heap.size (fun k_ => k_ ≠ gb389 ∧ k_ ≠ gb392) (.slice Ao41 x393003_2.length co41) x393003_2) := ⟨h3_⟩
                                              replace BK389 : Aside0 (w44.heap[gb389]? = some (.cells #[.int .i64 a0_0, .int .i64 a0_1, .int .i64 a0_2, .int .i64 a0_3] 23 (0, 0))) := ⟨h4_⟩
                                              replace BK392 : Aside0 (w44.heap[gb392]? = some (.cells #[.int .i64 x393000_2, .int .i64 x393001_2, .slice Ao40 x393002_2.length co40, .slice Ao41 x393003_2.length co41] 27 (0, 0))) := ⟨h5_⟩
                                              replace HB : Aside0 (Below w.heap.size w w44) := ⟨h6_⟩
                                              clear h0_ h1_ h2_ h3_ h4_ h5_ h6_
                                              have hHeld : w44.cell? ⟨gb389, 0, none⟩ = some (.int .i64 a0_0) ∧ w44.cell? ⟨gb389, 1, none⟩ = some (.int .i64 a0_1) ∧ w44.cell? ⟨gb389, 2, none⟩ = some (.int .i64 a0_2) ∧ w44.cell? ⟨gb389, 3, none⟩ = some (.int .i64 a0_3) ∧ w44.cell? ⟨gb392, 0, none⟩ = some (.int .i64 x393000_2) ∧ w44.cell? ⟨gb392, 1, none⟩ = some (.int .i64 x393001_2) ∧ w44.cell? ⟨gb392, 2, none⟩ = some (.slice Ao40 x393002_2.length co40) ∧ w44.cell? ⟨gb392, 3, none⟩ = some (.slice Ao41 x393003_2.length co41) ∧ w44.cell? (ad398.add ((x8_2).toNat * 2)) = some (.int .i64 ((rd_T45 l1 x8_2).f0)) ∧ w44.cell? ⟨(ad398.add ((x8_2).toNat * 2)).block, (ad398.add ((x8_2).toNat * 2)).off + 1, none⟩ = some (.int .i64 ((rd_T45 l1 x8_2).f1)) := hS_
                                              refine norm_ (a' := ?_) ?_ ?_
                                              rotate_left
                                              · simp only [putAll, Act.put, List.setIfInBounds_toArray, List.set_cons_zero, List.set_cons_succ]
                                                rfl
                                              refine two_ (i := 12) (j := 13) (Ni := some 9) (Nj := some 10) #[true, true, true, true, true, true, true, true, true, true, true, true, true, false, false, false] #[true, true, true, true, true, true, true, true, true, true, true, true, false, true, false, false] rfl rfl rfl rfl (two_of HT_.out (by kernel_rfl)) (by decide) (by decide) (fun K hK => ?_) (fun K hK => ?_)
                                              · skip
                                                refine box_step ?hg (N := 9) ?hd (cs := #[.int .i64 0, .int .i64 0, .slice none 0 0, .slice none 0 0]) (t := 27) ?hr ?_; (case hd => rfl); (case hg => rfl); (case hr => first | (go_simp; done) | (go_simp; rfl))
                                                intro gb413 hg w45 hbox hb
                                                have BK413 := Aside0.mk (hbox)
                                                have GW413 := Aside0.mk ((by rw [hg]; exact (below_size (bl HB)) : w.heap.size ≤ gb413))
                                                have GE413 := Aside0.mk ((by rw [hg]; exact (below_size (bl HB)) : w.heap.size ≤ gb413))
                                                have NB389_413 := nb BK389 hg
                                                have NB413_389 := bn BK389 hg
                                                have NB392_413 := nb BK392 hg
                                                have NB413_392 := bn BK392 hg
                                                replace HO_393002 := ve HO_393002 hg hb
                                                replace HO_393003 := ve HO_393003 hg hb
                                                replace HO405 := ve HO405 hg hb
                                                replace HO408 := ve HO408 hg hb
                                                replace BK389 := Aside0.mk (blk_below (bo BK389) hb)
                                                replace BK392 := Aside0.mk (blk_below (bo BK392) hb)
                                                replace HB := Aside0.mk (below_step (bl HB) hb)
                                                clear hb hbox hg
                                                refine hK.out _ _ ⟨(blk_cell BK389.out 0).trans rfl, (blk_cell BK389.out 1).trans rfl, (blk_cell BK389.out 2).trans rfl, (blk_cell BK389.out 3).trans rfl, (blk_cell BK392.out 0).trans rfl, (blk_cell BK392.out 1).trans rfl, (blk_cell BK392.out 2).trans rfl, (blk_cell BK392.out 3).trans rfl, ((HB.out.cell (World.block_lt_of_cell? w _ hw400_0)).trans hw400_0), ((HB.out.cell (World.block_lt_of_cell? w _ hw400_1)).trans hw400_1)⟩ (fun hHeld => ?_)
                                                clear hK K
                                                refine norm_ (a' := ?_) ?_ ?_
                                                rotate_left
                                                · show Act.put _ (some 9) _ = _
                                                  simp only [Act.put, List.setIfInBounds_toArray, List.set_cons_zero, List.set_cons_succ, i64_w, i32_w]
                                                  rfl
                                                exact norm_ (by first | (simp only [putAll, Act.put, List.setIfInBounds_toArray, List.set_cons_zero, List.set_cons_succ]; done) | (simp only [putAll, Act.put, List.setIfInBounds_toArray, List.set_cons_zero, List.set_cons_succ]; rfl)) (hJ8_12 (v404, v407, gb413) _ ⟨hHeld, (by (with_reducible repeat (first | apply Kd.V_alloc | apply Kd.V_drewN | apply Kd.V_drew)); exact Kd.V_mono HO405.out (fun _ hk => ⟨hk.1.1, ⟨hk.1.2, hk.2⟩⟩)), (by (with_reducible repeat (first | apply Kd.V_alloc | apply Kd.V_drewN | apply Kd.V_drew)); exact Kd.V_mono HO408.out (fun _ hk => ⟨hk.1.1, ⟨hk.1.2, hk.2⟩⟩)), (by (with_reducible repeat (first | apply Kd.V_alloc | apply Kd.V_drewN | apply Kd.V_drew)); exact Kd.V_mono HO_393002.out (fun _ hk => ⟨hk.1.1, ⟨hk.1.2, hk.2⟩⟩)), (by (with_reducible repeat (first | apply Kd.V_alloc | apply Kd.V_drewN | apply Kd.V_drew)); exact Kd.V_mono HO_393003.out (fun _ hk => ⟨hk.1.1, ⟨hk.1.2, hk.2⟩⟩)), (bo BK389), (bo BK392), (bo BK413), GW413.out, GE413.out, NB389_413.out, NB413_389.out, NB392_413.out, NB413_392.out, (bl HB)⟩)
                                              · skip
                                                refine box_step ?hg (N := 10) ?hd (cs := #[.bool false, .int .i64 0, .int .i64 0, .int .i64 0]) (t := 32) ?hr ?_; (case hd => rfl); (case hg => rfl); (case hr => first | (go_simp; done) | (go_simp; rfl))
                                                intro gb414 hg w45 hbox hb
                                                have BK414 := Aside0.mk (hbox)
                                                have GW414 := Aside0.mk ((by rw [hg]; exact (below_size (bl HB)) : w.heap.size ≤ gb414))
                                                have GE414 := Aside0.mk ((by rw [hg]; exact (below_size (bl HB)) : w.heap.size ≤ gb414))
                                                have NB389_414 := nb BK389 hg
                                                have NB414_389 := bn BK389 hg
                                                have NB392_414 := nb BK392 hg
                                                have NB414_392 := bn BK392 hg
                                                replace HO_393002 := ve HO_393002 hg hb
                                                replace HO_393003 := ve HO_393003 hg hb
                                                replace HO405 := ve HO405 hg hb
                                                replace HO408 := ve HO408 hg hb
                                                replace BK389 := Aside0.mk (blk_below (bo BK389) hb)
                                                replace BK392 := Aside0.mk (blk_below (bo BK392) hb)
                                                replace HB := Aside0.mk (below_step (bl HB) hb)
                                                clear hb hbox hg
                                                refine hK.out _ _ ⟨(blk_cell BK389.out 0).trans rfl, (blk_cell BK389.out 1).trans rfl, (blk_cell BK389.out 2).trans rfl, (blk_cell BK389.out 3).trans rfl, (blk_cell BK392.out 0).trans rfl, (blk_cell BK392.out 1).trans rfl, (blk_cell BK392.out 2).trans rfl, (blk_cell BK392.out 3).trans rfl, ((HB.out.cell (World.block_lt_of_cell? w _ hw400_0)).trans hw400_0), ((HB.out.cell (World.block_lt_of_cell? w _ hw400_1)).trans hw400_1)⟩ (fun hHeld => ?_)
                                                clear hK K
                                                refine norm_ (a' := ?_) ?_ ?_
                                                rotate_left
                                                · show Act.put _ (some 10) _ = _
                                                  simp only [Act.put, List.setIfInBounds_toArray, List.set_cons_zero, List.set_cons_succ, i64_w, i32_w]
                                                  rfl
                                                exact norm_ (by first | (simp only [putAll, Act.put, List.setIfInBounds_toArray, List.set_cons_zero, List.set_cons_succ]; done) | (simp only [putAll, Act.put, List.setIfInBounds_toArray, List.set_cons_zero, List.set_cons_succ]; rfl)) (hJ8_13 (v404, v407, gb414) _ ⟨hHeld, (by (with_reducible repeat (first | apply Kd.V_alloc | apply Kd.V_drewN | apply Kd.V_drew)); exact Kd.V_mono HO405.out (fun _ hk => ⟨hk.1.1, ⟨hk.1.2, hk.2⟩⟩)), (by (with_reducible repeat (first | apply Kd.V_alloc | apply Kd.V_drewN | apply Kd.V_drew)); exact Kd.V_mono HO408.out (fun _ hk => ⟨hk.1.1, ⟨hk.1.2, hk.2⟩⟩)), (by (with_reducible repeat (first | apply Kd.V_alloc | apply Kd.V_drewN | apply Kd.V_drew)); exact Kd.V_mono HO_393002.out (fun _ hk => ⟨hk.1.1, ⟨hk.1.2, hk.2⟩⟩)), (by (with_reducible repeat (first | apply Kd.V_alloc | apply Kd.V_drewN | apply Kd.V_drew)); exact Kd.V_mono HO_393003.out (fun _ hk => ⟨hk.1.1, ⟨hk.1.2, hk.2⟩⟩)), (bo BK389), (bo BK392), (bo BK414), GW414.out, GE414.out, NB389_414.out, NB414_389.out, NB392_414.out, NB414_392.out, (bl HB)⟩)
                                          · skip
                                            rintro ⟨gb413, gb414⟩ w45 ⟨hS_, h0_, h1_, h2_, h3_, h4_, h5_, h6_, h7_, h8_, h9_, h10_, h11_, h12_, h13_, h14_, h15_, h16_, h17_, h18_, h19_, h20_⟩
                                            have BK413 : Aside0 (w45.heap[gb413]? = some (.cells #[.int .i64 0, .int .i64 0, .slice none 0 0, .slice none 0 0] 27 (0, 0))) := ⟨h4_⟩
                                            have BK414 : Aside0 (w45.heap[gb414]? = some (.cells #[.bool false, .int .i64 0, .int .i64 0, .int .i64 0] 32 (0, 0))) := ⟨h5_⟩
                                            have GW413 : Aside0 (w.heap.size ≤ gb413) := ⟨h6_⟩
                                            have GE413 : Aside0 (w.heap.size ≤ gb413) := ⟨h7_⟩
                                            have NB389_413 : Aside0 (gb389 ≠ gb413) := ⟨h8_⟩
                                            have NB413_389 : Aside0 (gb413 ≠ gb389) := ⟨h9_⟩
                                            have NB392_413 : Aside0 (gb392 ≠ gb413) := ⟨h10_⟩
                                            have NB413_392 : Aside0 (gb413 ≠ gb392) := ⟨h11_⟩
                                            have NB414_413 : Aside0 (gb414 ≠ gb413) := ⟨h12_⟩
                                            have NB413_414 : Aside0 (gb413 ≠ gb414) := ⟨h13_⟩
                                            have GW414 : Aside0 (w.heap.size ≤ gb414) := ⟨h14_⟩
                                            have GE414 : Aside0 (w.heap.size ≤ gb414) := ⟨h15_⟩
                                            have NB389_414 : Aside0 (gb389 ≠ gb414) := ⟨h16_⟩
                                            have NB414_389 : Aside0 (gb414 ≠ gb389) := ⟨h17_⟩
                                            have NB392_414 : Aside0 (gb392 ≠ gb414) := ⟨h18_⟩
                                            have NB414_392 : Aside0 (gb414 ≠ gb392) := ⟨h19_⟩
                                            replace HO_393002 : Aside0 (Kd.V (Kd.int .i64) 3 w45 w.heap.size (fun k_ => k_ ≠ gb389 ∧ k_ ≠ gb392 ∧ k_ ≠ gb413 ∧ k_ ≠ gb414) (.slice Ao40 x393002_2.length co40) x393002_2) := ⟨h0_⟩
                                            replace HO_393003 : Aside0 (Kd.V k53 53 w45 w.heap.size (fun k_ => k_ ≠ gb389 ∧ k_ ≠ gb392 ∧ k_ ≠ gb413 ∧ k_ ≠ gb414) (.slice Ao41 x393003_2.length co41) x393003_2) := ⟨h1_⟩
                                            replace BK389 : Aside0 (w45.heap[gb389]? = some (.cells #[.int .i64 a0_0, .int .i64 a0_1, .int .i64 a0_2, .int .i64 a0_3] 23 (0, 0))) := ⟨h2_⟩
                                            replace BK392 : Aside0 (w45.heap[gb392]? = some (.cells #[.int .i64 x393000_2, .int .i64 x393001_2, .slice Ao40 x393002_2.length co40, .slice Ao41 x393003_2.length co41] 27 (0, 0))) := ⟨h3_⟩
                                            replace HB : Aside0 (Below w.heap.size w w45) := ⟨h20_⟩
                                            clear h0_ h1_ h2_ h3_ h4_ h5_ h6_ h7_ h8_ h9_ h10_ h11_ h12_ h13_ h14_ h15_ h16_ h17_ h18_ h19_ h20_
                                            have hHeld : w45.cell? ⟨gb389, 0, none⟩ = some (.int .i64 a0_0) ∧ w45.cell? ⟨gb389, 1, none⟩ = some (.int .i64 a0_1) ∧ w45.cell? ⟨gb389, 2, none⟩ = some (.int .i64 a0_2) ∧ w45.cell? ⟨gb389, 3, none⟩ = some (.int .i64 a0_3) ∧ w45.cell? ⟨gb392, 0, none⟩ = some (.int .i64 x393000_2) ∧ w45.cell? ⟨gb392, 1, none⟩ = some (.int .i64 x393001_2) ∧ w45.cell? ⟨gb392, 2, none⟩ = some (.slice Ao40 x393002_2.length co40) ∧ w45.cell? ⟨gb392, 3, none⟩ = some (.slice Ao41 x393003_2.length co41) ∧ w45.cell? (ad398.add ((x8_2).toNat * 2)) = some (.int .i64 ((rd_T45 l1 x8_2).f0)) ∧ w45.cell? ⟨(ad398.add ((x8_2).toNat * 2)).block, (ad398.add ((x8_2).toNat * 2)).off + 1, none⟩ = some (.int .i64 ((rd_T45 l1 x8_2).f1)) := hS_
                                            refine norm_ (a' := ?_) ?_ ?_
                                            rotate_left
                                            · simp only [putAll, Act.put, List.setIfInBounds_toArray, List.set_cons_zero, List.set_cons_succ]
                                              rfl
                                            refine one_ (i := 8) (N := some 87) #[true, true, true, true, true, true, true, true, true, false, false, false, true, true, false, false] rfl rfl (one_of HT_.out (by kernel_rfl)) (by decide) (fun K hK => ?_)
                                            refine goes_ Try.func10 (by kernel_rfl) rfl #[.agg #[.int .i64 a0_0, .int .i64 a0_1, .int .i64 a0_2, .int .i64 a0_3], .agg #[.int .i64 x393000_2, .int .i64 x393001_2, .slice Ao40 x393002_2.length co40, .slice Ao41 x393003_2.length co41], .int .i64 (wrap64 (x6_2 + ((rd_T45 l1 x8_2).f0))), .int .i64 ((rd_T45 l1 x8_2).f1)] (by rfl) rfl rfl (by (try simp only [List.map_toArray, List.map_cons, List.map_nil]); first | done | rfl | (simp only [List.length_drop, List.length_take]; rfl)) ?_
                                            with_reducible refine (fixed_Ask.calls kj31 a0_0 a0_1 a0_2 a0_3 x393000_2 x393001_2 (fun k_ => (k_ ≠ gb389 ∧ (k_ ≠ gb392 ∧ (k_ ≠ gb413 ∧ k_ ≠ gb414)))) _ _ x393002_2 (fun k_ => (k_ ≠ gb389 ∧ (k_ ≠ gb392 ∧ (k_ ≠ gb413 ∧ k_ ≠ gb414)))) _ _ x393003_2 (wrap64 (x6_2 + ((rd_T45 l1 x8_2).f0))) ((rd_T45 l1 x8_2).f1) t401 t402 t403 t406 t409 t410 t411 t412 _ ?side1 ?side2 A37.out).mono ?_
                                            (case side1 => exact HO_393002.out)
                                            (case side2 => exact HO_393003.out)
                                            rintro e w46 ⟨v404, v407, rfl, ho0, ho1, hb⟩
                                            refine ⟨_, rfl, ?_⟩
                                            have HO405 := Aside0.mk (Kd.V_lower (Kd.V_mono (ok' := fun k_ => k_ ≠ gb389 ∧ k_ ≠ gb392 ∧ k_ ≠ gb413 ∧ k_ ≠ gb414) ho0 (fun k_ hk_ => ⟨Or.elim hk_ (fun hs_ => Or.elim hs_ (fun hs_ => hs_.1) (fun hs_ => hs_.1)) (fun hn_ => (Kd.freshB (bo BK389) k_ hn_)), Or.elim hk_ (fun hs_ => Or.elim hs_ (fun hs_ => hs_.2.1) (fun hs_ => hs_.2.1)) (fun hn_ => (Kd.freshB (bo BK392) k_ hn_)), Or.elim hk_ (fun hs_ => Or.elim hs_ (fun hs_ => hs_.2.2.1) (fun hs_ => hs_.2.2.1)) (fun hn_ => (Kd.freshB (bo BK413) k_ hn_)), Or.elim hk_ (fun hs_ => Or.elim hs_ (fun hs_ => hs_.2.2.2) (fun hs_ => hs_.2.2.2)) (fun hn_ => (Kd.freshB (bo BK414) k_ hn_))⟩)) (below_size (bl HB)))
                                            have HO408 := Aside0.mk (Kd.V_lower (Kd.V_mono (ok' := fun k_ => k_ ≠ gb389 ∧ k_ ≠ gb392 ∧ k_ ≠ gb413 ∧ k_ ≠ gb414) ho1 (fun k_ hk_ => ⟨Or.elim hk_ (fun hs_ => Or.elim hs_ (fun hs_ => hs_.1) (fun hs_ => hs_.1)) (fun hn_ => (Kd.freshB (bo BK389) k_ hn_)), Or.elim hk_ (fun hs_ => Or.elim hs_ (fun hs_ => hs_.2.1) (fun hs_ => hs_.2.1)) (fun hn_ => (Kd.freshB (bo BK392) k_ hn_)), Or.elim hk_ (fun hs_ => Or.elim hs_ (fun hs_ => hs_.2.2.1) (fun hs_ => hs_.2.2.1)) (fun hn_ => (Kd.freshB (bo BK413) k_ hn_)), Or.elim hk_ (fun hs_ => Or.elim hs_ (fun hs_ => hs_.2.2.2) (fun hs_ => hs_.2.2.2)) (fun hn_ => (Kd.freshB (bo BK414) k_ hn_))⟩)) (below_size (bl HB)))
                                            replace HO_393002 := vb HO_393002 hb
                                            replace HO_393003 := vb HO_393003 hb
                                            replace BK389 := Aside0.mk (blk_below (bo BK389) hb)
                                            replace BK392 := Aside0.mk (blk_below (bo BK392) hb)
                                            replace BK413 := Aside0.mk (blk_below (bo BK413) hb)
                                            replace BK414 := Aside0.mk (blk_below (bo BK414) hb)
                                            replace HB := Aside0.mk (below_step (bl HB) hb)
                                            (try clear hb)
                                            (try clear hb2)
                                            (try clear hk)
                                            (try clear hi)
                                            (try clear ho0)
                                            (try clear ho1)
                                            refine hK.out _ _ ⟨(blk_cell BK389.out 0).trans rfl, (blk_cell BK389.out 1).trans rfl, (blk_cell BK389.out 2).trans rfl, (blk_cell BK389.out 3).trans rfl, (blk_cell BK392.out 0).trans rfl, (blk_cell BK392.out 1).trans rfl, (blk_cell BK392.out 2).trans rfl, (blk_cell BK392.out 3).trans rfl, ((HB.out.cell (World.block_lt_of_cell? w _ hw400_0)).trans hw400_0), ((HB.out.cell (World.block_lt_of_cell? w _ hw400_1)).trans hw400_1)⟩ (fun hHeld => ?_)
                                            clear hK K
                                            refine norm_ (a' := ?_) ?_ ?_
                                            rotate_left
                                            · show Act.put _ (some 87) _ = _
                                              simp only [Act.put, List.setIfInBounds_toArray, List.set_cons_zero, List.set_cons_succ, i64_w, i32_w]
                                              rfl
                                            refine pureA 9 78 HT_ ?_
                                            refine pureA 10 88 HT_ ?_
                                            refine pureA 11 89 HT_ ?_
                                            exact norm_ (by first | (simp only [putAll, Act.put, List.setIfInBounds_toArray, List.set_cons_zero, List.set_cons_succ]; done) | (simp only [putAll, Act.put, List.setIfInBounds_toArray, List.set_cons_zero, List.set_cons_succ]; rfl)) (hJ8_12_13 (v404, v407, gb413, gb414) _ ⟨hHeld, (by (with_reducible repeat (first | apply Kd.V_alloc | apply Kd.V_drewN | apply Kd.V_drew)); exact HO405.out), (by (with_reducible repeat (first | apply Kd.V_alloc | apply Kd.V_drewN | apply Kd.V_drew)); exact HO408.out), (by (with_reducible repeat (first | apply Kd.V_alloc | apply Kd.V_drewN | apply Kd.V_drew)); exact HO_393002.out), (by (with_reducible repeat (first | apply Kd.V_alloc | apply Kd.V_drewN | apply Kd.V_drew)); exact HO_393003.out), (bo BK389), (bo BK392), (bo BK413), (bo BK414), GW413.out, GE413.out, NB389_413.out, NB413_389.out, NB392_413.out, NB413_392.out, NB414_413.out, NB413_414.out, GW414.out, GE414.out, NB389_414.out, NB414_389.out, NB392_414.out, NB414_392.out, (bl HB)⟩)
                                        · skip
                                          rintro ⟨v404, v407, gb414⟩ w45 ⟨hS_, h0_, h1_, h2_, h3_, h4_, h5_, h6_, h7_, h8_, h9_, h10_, h11_, h12_, h13_⟩
                                          have HO405 : Aside0 (Kd.V (Kd.int .i64) 3 w45 w.heap.size (fun k_ => k_ ≠ gb389 ∧ k_ ≠ gb392 ∧ k_ ≠ gb414) v404 t403) := ⟨h0_⟩
                                          have HO408 : Aside0 (Kd.V k53 53 w45 w.heap.size (fun k_ => k_ ≠ gb389 ∧ k_ ≠ gb392 ∧ k_ ≠ gb414) v407 t406) := ⟨h1_⟩
                                          have BK414 : Aside0 (w45.heap[gb414]? = some (.cells #[.bool false, .int .i64 0, .int .i64 0, .int .i64 0] 32 (0, 0))) := ⟨h6_⟩
                                          have GW414 : Aside0 (w.heap.size ≤ gb414) := ⟨h7_⟩
                                          have GE414 : Aside0 (w.heap.size ≤ gb414) := ⟨h8_⟩
                                          have NB389_414 : Aside0 (gb389 ≠ gb414) := ⟨h9_⟩
                                          have NB414_389 : Aside0 (gb414 ≠ gb389) := ⟨h10_⟩
                                          have NB392_414 : Aside0 (gb392 ≠ gb414) := ⟨h11_⟩
                                          have NB414_392 : Aside0 (gb414 ≠ gb392) := ⟨h12_⟩
                                          replace HO_393002 : Aside0 (Kd.V (Kd.int .i64) 3 w45 w.heap.size (fun k_ => k_ ≠ gb389 ∧ k_ ≠ gb392 ∧ k_ ≠ gb414) (.slice Ao40 x393002_2.length co40) x393002_2) := ⟨h2_⟩
                                          replace HO_393003 : Aside0 (Kd.V k53 53 w45 w.heap.size (fun k_ => k_ ≠ gb389 ∧ k_ ≠ gb392 ∧ k_ ≠ gb414) (.slice Ao41 x393003_2.length co41) x393003_2) := ⟨h3_⟩
                                          replace BK389 : Aside0 (w45.heap[gb389]? = some (.cells #[.int .i64 a0_0, .int .i64 a0_1, .int .i64 a0_2, .int .i64 a0_3] 23 (0, 0))) := ⟨h4_⟩
                                          replace BK392 : Aside0 (w45.heap[gb392]? = some (.cells #[.int .i64 x393000_2, .int .i64 x393001_2, .slice Ao40 x393002_2.length co40, .slice Ao41 x393003_2.length co41] 27 (0, 0))) := ⟨h5_⟩
                                          replace HB : Aside0 (Below w.heap.size w w45) := ⟨h13_⟩
                                          clear h0_ h1_ h2_ h3_ h4_ h5_ h6_ h7_ h8_ h9_ h10_ h11_ h12_ h13_
                                          have hHeld : w45.cell? ⟨gb389, 0, none⟩ = some (.int .i64 a0_0) ∧ w45.cell? ⟨gb389, 1, none⟩ = some (.int .i64 a0_1) ∧ w45.cell? ⟨gb389, 2, none⟩ = some (.int .i64 a0_2) ∧ w45.cell? ⟨gb389, 3, none⟩ = some (.int .i64 a0_3) ∧ w45.cell? ⟨gb392, 0, none⟩ = some (.int .i64 x393000_2) ∧ w45.cell? ⟨gb392, 1, none⟩ = some (.int .i64 x393001_2) ∧ w45.cell? ⟨gb392, 2, none⟩ = some (.slice Ao40 x393002_2.length co40) ∧ w45.cell? ⟨gb392, 3, none⟩ = some (.slice Ao41 x393003_2.length co41) ∧ w45.cell? (ad398.add ((x8_2).toNat * 2)) = some (.int .i64 ((rd_T45 l1 x8_2).f0)) ∧ w45.cell? ⟨(ad398.add ((x8_2).toNat * 2)).block, (ad398.add ((x8_2).toNat * 2)).off + 1, none⟩ = some (.int .i64 ((rd_T45 l1 x8_2).f1)) := hS_
                                          refine norm_ (a' := ?_) ?_ ?_
                                          rotate_left
                                          · simp only [putAll, Act.put, List.setIfInBounds_toArray, List.set_cons_zero, List.set_cons_succ]
                                            rfl
                                          refine one_ (i := 12) (N := some 9) #[true, true, true, true, true, true, true, true, true, true, true, true, true, true, false, false] rfl rfl (one_of HT_.out (by kernel_rfl)) (by decide) (fun K hK => ?_)
                                          refine box_step ?hg (N := 9) ?hd (cs := #[.int .i64 0, .int .i64 0, .slice none 0 0, .slice none 0 0]) (t := 27) ?hr ?_; (case hd => rfl); (case hg => rfl); (case hr => first | (go_simp; done) | (go_simp; rfl))
                                          intro gb413 hg w46 hbox hb
                                          have BK413 := Aside0.mk (hbox)
                                          have GW413 := Aside0.mk ((by rw [hg]; exact (below_size (bl HB)) : w.heap.size ≤ gb413))
                                          have GE413 := Aside0.mk ((by rw [hg]; exact (below_size (bl HB)) : w.heap.size ≤ gb413))
                                          have NB389_413 := nb BK389 hg
                                          have NB413_389 := bn BK389 hg
                                          have NB392_413 := nb BK392 hg
                                          have NB413_392 := bn BK392 hg
                                          have NB414_413 := nb BK414 hg
                                          have NB413_414 := bn BK414 hg
                                          replace HO_393002 := ve HO_393002 hg hb
                                          replace HO_393003 := ve HO_393003 hg hb
                                          replace HO405 := ve HO405 hg hb
                                          replace HO408 := ve HO408 hg hb
                                          replace BK389 := Aside0.mk (blk_below (bo BK389) hb)
                                          replace BK392 := Aside0.mk (blk_below (bo BK392) hb)
                                          replace BK414 := Aside0.mk (blk_below (bo BK414) hb)
                                          replace HB := Aside0.mk (below_step (bl HB) hb)
                                          clear hb hbox hg
                                          refine hK.out _ _ ⟨(blk_cell BK389.out 0).trans rfl, (blk_cell BK389.out 1).trans rfl, (blk_cell BK389.out 2).trans rfl, (blk_cell BK389.out 3).trans rfl, (blk_cell BK392.out 0).trans rfl, (blk_cell BK392.out 1).trans rfl, (blk_cell BK392.out 2).trans rfl, (blk_cell BK392.out 3).trans rfl, ((HB.out.cell (World.block_lt_of_cell? w _ hw400_0)).trans hw400_0), ((HB.out.cell (World.block_lt_of_cell? w _ hw400_1)).trans hw400_1)⟩ (fun hHeld => ?_)
                                          clear hK K
                                          refine norm_ (a' := ?_) ?_ ?_
                                          rotate_left
                                          · show Act.put _ (some 9) _ = _
                                            simp only [Act.put, List.setIfInBounds_toArray, List.set_cons_zero, List.set_cons_succ, i64_w, i32_w]
                                            rfl
                                          exact norm_ (by first | (simp only [putAll, Act.put, List.setIfInBounds_toArray, List.set_cons_zero, List.set_cons_succ]; done) | (simp only [putAll, Act.put, List.setIfInBounds_toArray, List.set_cons_zero, List.set_cons_succ]; rfl)) (hJ8_12_13 (v404, v407, gb413, gb414) _ ⟨hHeld, (by (with_reducible repeat (first | apply Kd.V_alloc | apply Kd.V_drewN | apply Kd.V_drew)); exact Kd.V_mono HO405.out (fun _ hk => ⟨hk.1.1, ⟨hk.1.2.1, ⟨hk.2, hk.1.2.2⟩⟩⟩)), (by (with_reducible repeat (first | apply Kd.V_alloc | apply Kd.V_drewN | apply Kd.V_drew)); exact Kd.V_mono HO408.out (fun _ hk => ⟨hk.1.1, ⟨hk.1.2.1, ⟨hk.2, hk.1.2.2⟩⟩⟩)), (by (with_reducible repeat (first | apply Kd.V_alloc | apply Kd.V_drewN | apply Kd.V_drew)); exact Kd.V_mono HO_393002.out (fun _ hk => ⟨hk.1.1, ⟨hk.1.2.1, ⟨hk.2, hk.1.2.2⟩⟩⟩)), (by (with_reducible repeat (first | apply Kd.V_alloc | apply Kd.V_drewN | apply Kd.V_drew)); exact Kd.V_mono HO_393003.out (fun _ hk => ⟨hk.1.1, ⟨hk.1.2.1, ⟨hk.2, hk.1.2.2⟩⟩⟩)), (bo BK389), (bo BK392), (bo BK413), (bo BK414), GW413.out, GE413.out, NB389_413.out, NB413_389.out, NB392_413.out, NB413_392.out, NB414_413.out, NB413_414.out, GW414.out, GE414.out, NB389_414.out, NB414_389.out, NB392_414.out, NB414_392.out, (bl HB)⟩)
                                      · skip
                                        rintro ⟨v404, v407, gb413⟩ w45 ⟨hS_, h0_, h1_, h2_, h3_, h4_, h5_, h6_, h7_, h8_, h9_, h10_, h11_, h12_, h13_⟩
                                        have HO405 : Aside0 (Kd.V (Kd.int .i64) 3 w45 w.heap.size (fun k_ => k_ ≠ gb389 ∧ k_ ≠ gb392 ∧ k_ ≠ gb413) v404 t403) := ⟨h0_⟩
                                        have HO408 : Aside0 (Kd.V k53 53 w45 w.heap.size (fun k_ => k_ ≠ gb389 ∧ k_ ≠ gb392 ∧ k_ ≠ gb413) v407 t406) := ⟨h1_⟩
                                        have BK413 : Aside0 (w45.heap[gb413]? = some (.cells #[.int .i64 0, .int .i64 0, .slice none 0 0, .slice none 0 0] 27 (0, 0))) := ⟨h6_⟩
                                        have GW413 : Aside0 (w.heap.size ≤ gb413) := ⟨h7_⟩
                                        have GE413 : Aside0 (w.heap.size ≤ gb413) := ⟨h8_⟩
                                        have NB389_413 : Aside0 (gb389 ≠ gb413) := ⟨h9_⟩
                                        have NB413_389 : Aside0 (gb413 ≠ gb389) := ⟨h10_⟩
                                        have NB392_413 : Aside0 (gb392 ≠ gb413) := ⟨h11_⟩
                                        have NB413_392 : Aside0 (gb413 ≠ gb392) := ⟨h12_⟩
                                        replace HO_393002 : Aside0 (Kd.V (Kd.int .i64) 3 w45 w.heap.size (fun k_ => k_ ≠ gb389 ∧ k_ ≠ gb392 ∧ k_ ≠ gb413) (.slice Ao40 x393002_2.length co40) x393002_2) := ⟨h2_⟩
                                        replace HO_393003 : Aside0 (Kd.V k53 53 w45 w.heap.size (fun k_ => k_ ≠ gb389 ∧ k_ ≠ gb392 ∧ k_ ≠ gb413) (.slice Ao41 x393003_2.length co41) x393003_2) := ⟨h3_⟩
                                        replace BK389 : Aside0 (w45.heap[gb389]? = some (.cells #[.int .i64 a0_0, .int .i64 a0_1, .int .i64 a0_2, .int .i64 a0_3] 23 (0, 0))) := ⟨h4_⟩
                                        replace BK392 : Aside0 (w45.heap[gb392]? = some (.cells #[.int .i64 x393000_2, .int .i64 x393001_2, .slice Ao40 x393002_2.length co40, .slice Ao41 x393003_2.length co41] 27 (0, 0))) := ⟨h5_⟩
                                        replace HB : Aside0 (Below w.heap.size w w45) := ⟨h13_⟩
                                        clear h0_ h1_ h2_ h3_ h4_ h5_ h6_ h7_ h8_ h9_ h10_ h11_ h12_ h13_
                                        have hHeld : w45.cell? ⟨gb389, 0, none⟩ = some (.int .i64 a0_0) ∧ w45.cell? ⟨gb389, 1, none⟩ = some (.int .i64 a0_1) ∧ w45.cell? ⟨gb389, 2, none⟩ = some (.int .i64 a0_2) ∧ w45.cell? ⟨gb389, 3, none⟩ = some (.int .i64 a0_3) ∧ w45.cell? ⟨gb392, 0, none⟩ = some (.int .i64 x393000_2) ∧ w45.cell? ⟨gb392, 1, none⟩ = some (.int .i64 x393001_2) ∧ w45.cell? ⟨gb392, 2, none⟩ = some (.slice Ao40 x393002_2.length co40) ∧ w45.cell? ⟨gb392, 3, none⟩ = some (.slice Ao41 x393003_2.length co41) ∧ w45.cell? (ad398.add ((x8_2).toNat * 2)) = some (.int .i64 ((rd_T45 l1 x8_2).f0)) ∧ w45.cell? ⟨(ad398.add ((x8_2).toNat * 2)).block, (ad398.add ((x8_2).toNat * 2)).off + 1, none⟩ = some (.int .i64 ((rd_T45 l1 x8_2).f1)) := hS_
                                        refine norm_ (a' := ?_) ?_ ?_
                                        rotate_left
                                        · simp only [putAll, Act.put, List.setIfInBounds_toArray, List.set_cons_zero, List.set_cons_succ]
                                          rfl
                                        refine one_ (i := 13) (N := some 10) #[true, true, true, true, true, true, true, true, true, true, true, true, true, true, false, false] rfl rfl (one_of HT_.out (by kernel_rfl)) (by decide) (fun K hK => ?_)
                                        refine box_step ?hg (N := 10) ?hd (cs := #[.bool false, .int .i64 0, .int .i64 0, .int .i64 0]) (t := 32) ?hr ?_; (case hd => rfl); (case hg => rfl); (case hr => first | (go_simp; done) | (go_simp; rfl))
                                        intro gb414 hg w46 hbox hb
                                        have BK414 := Aside0.mk (hbox)
                                        have GW414 := Aside0.mk ((by rw [hg]; exact (below_size (bl HB)) : w.heap.size ≤ gb414))
                                        have GE414 := Aside0.mk ((by rw [hg]; exact (below_size (bl HB)) : w.heap.size ≤ gb414))
                                        have NB389_414 := nb BK389 hg
                                        have NB414_389 := bn BK389 hg
                                        have NB392_414 := nb BK392 hg
                                        have NB414_392 := bn BK392 hg
                                        have NB413_414 := nb BK413 hg
                                        have NB414_413 := bn BK413 hg
                                        replace HO_393002 := ve HO_393002 hg hb
                                        replace HO_393003 := ve HO_393003 hg hb
                                        replace HO405 := ve HO405 hg hb
                                        replace HO408 := ve HO408 hg hb
                                        replace BK389 := Aside0.mk (blk_below (bo BK389) hb)
                                        replace BK392 := Aside0.mk (blk_below (bo BK392) hb)
                                        replace BK413 := Aside0.mk (blk_below (bo BK413) hb)
                                        replace HB := Aside0.mk (below_step (bl HB) hb)
                                        clear hb hbox hg
                                        refine hK.out _ _ ⟨(blk_cell BK389.out 0).trans rfl, (blk_cell BK389.out 1).trans rfl, (blk_cell BK389.out 2).trans rfl, (blk_cell BK389.out 3).trans rfl, (blk_cell BK392.out 0).trans rfl, (blk_cell BK392.out 1).trans rfl, (blk_cell BK392.out 2).trans rfl, (blk_cell BK392.out 3).trans rfl, ((HB.out.cell (World.block_lt_of_cell? w _ hw400_0)).trans hw400_0), ((HB.out.cell (World.block_lt_of_cell? w _ hw400_1)).trans hw400_1)⟩ (fun hHeld => ?_)
                                        clear hK K
                                        refine norm_ (a' := ?_) ?_ ?_
                                        rotate_left
                                        · show Act.put _ (some 10) _ = _
                                          simp only [Act.put, List.setIfInBounds_toArray, List.set_cons_zero, List.set_cons_succ, i64_w, i32_w]
                                          rfl
                                        exact norm_ (by first | (simp only [putAll, Act.put, List.setIfInBounds_toArray, List.set_cons_zero, List.set_cons_succ]; done) | (simp only [putAll, Act.put, List.setIfInBounds_toArray, List.set_cons_zero, List.set_cons_succ]; rfl)) (hJ8_12_13 (v404, v407, gb413, gb414) _ ⟨hHeld, (by (with_reducible repeat (first | apply Kd.V_alloc | apply Kd.V_drewN | apply Kd.V_drew)); exact Kd.V_mono HO405.out (fun _ hk => ⟨hk.1.1, ⟨hk.1.2.1, ⟨hk.1.2.2, hk.2⟩⟩⟩)), (by (with_reducible repeat (first | apply Kd.V_alloc | apply Kd.V_drewN | apply Kd.V_drew)); exact Kd.V_mono HO408.out (fun _ hk => ⟨hk.1.1, ⟨hk.1.2.1, ⟨hk.1.2.2, hk.2⟩⟩⟩)), (by (with_reducible repeat (first | apply Kd.V_alloc | apply Kd.V_drewN | apply Kd.V_drew)); exact Kd.V_mono HO_393002.out (fun _ hk => ⟨hk.1.1, ⟨hk.1.2.1, ⟨hk.1.2.2, hk.2⟩⟩⟩)), (by (with_reducible repeat (first | apply Kd.V_alloc | apply Kd.V_drewN | apply Kd.V_drew)); exact Kd.V_mono HO_393003.out (fun _ hk => ⟨hk.1.1, ⟨hk.1.2.1, ⟨hk.1.2.2, hk.2⟩⟩⟩)), (bo BK389), (bo BK392), (bo BK413), (bo BK414), GW413.out, GE413.out, NB389_413.out, NB413_389.out, NB392_413.out, NB413_392.out, NB414_413.out, NB413_414.out, GW414.out, GE414.out, NB389_414.out, NB414_389.out, NB392_414.out, NB414_392.out, (bl HB)⟩)
                                    rintro ⟨v404, v407, gb413, gb414⟩ w46 ⟨hS_, h0_, h1_, h2_, h3_, h4_, h5_, h6_, h7_, h8_, h9_, h10_, h11_, h12_, h13_, h14_, h15_, h16_, h17_, h18_, h19_, h20_, h21_, h22_⟩
                                    have HO405 : Aside0 (Kd.V (Kd.int .i64) 3 w46 w.heap.size (fun k_ => k_ ≠ gb389 ∧ k_ ≠ gb392 ∧ k_ ≠ gb413 ∧ k_ ≠ gb414) v404 t403) := ⟨h0_⟩
                                    have HO408 : Aside0 (Kd.V k53 53 w46 w.heap.size (fun k_ => k_ ≠ gb389 ∧ k_ ≠ gb392 ∧ k_ ≠ gb413 ∧ k_ ≠ gb414) v407 t406) := ⟨h1_⟩
                                    have BK413 : Aside0 (w46.heap[gb413]? = some (.cells #[.int .i64 0, .int .i64 0, .slice none 0 0, .slice none 0 0] 27 (0, 0))) := ⟨h6_⟩
                                    have BK414 : Aside0 (w46.heap[gb414]? = some (.cells #[.bool false, .int .i64 0, .int .i64 0, .int .i64 0] 32 (0, 0))) := ⟨h7_⟩
                                    have GW413 : Aside0 (w.heap.size ≤ gb413) := ⟨h8_⟩
                                    have GE413 : Aside0 (w.heap.size ≤ gb413) := ⟨h9_⟩
                                    have NB389_413 : Aside0 (gb389 ≠ gb413) := ⟨h10_⟩
                                    have NB413_389 : Aside0 (gb413 ≠ gb389) := ⟨h11_⟩
                                    have NB392_413 : Aside0 (gb392 ≠ gb413) := ⟨h12_⟩
                                    have NB413_392 : Aside0 (gb413 ≠ gb392) := ⟨h13_⟩
                                    have NB414_413 : Aside0 (gb414 ≠ gb413) := ⟨h14_⟩
                                    have NB413_414 : Aside0 (gb413 ≠ gb414) := ⟨h15_⟩
                                    have GW414 : Aside0 (w.heap.size ≤ gb414) := ⟨h16_⟩
                                    have GE414 : Aside0 (w.heap.size ≤ gb414) := ⟨h17_⟩
                                    have NB389_414 : Aside0 (gb389 ≠ gb414) := ⟨h18_⟩
                                    have NB414_389 : Aside0 (gb414 ≠ gb389) := ⟨h19_⟩
                                    have NB392_414 : Aside0 (gb392 ≠ gb414) := ⟨h20_⟩
                                    have NB414_392 : Aside0 (gb414 ≠ gb392) := ⟨h21_⟩
                                    replace HO_393002 : Aside0 (Kd.V (Kd.int .i64) 3 w46 w.heap.size (fun k_ => k_ ≠ gb389 ∧ k_ ≠ gb392 ∧ k_ ≠ gb413 ∧ k_ ≠ gb414) (.slice Ao40 x393002_2.length co40) x393002_2) := ⟨h2_⟩
                                    replace HO_393003 : Aside0 (Kd.V k53 53 w46 w.heap.size (fun k_ => k_ ≠ gb389 ∧ k_ ≠ gb392 ∧ k_ ≠ gb413 ∧ k_ ≠ gb414) (.slice Ao41 x393003_2.length co41) x393003_2) := ⟨h3_⟩
                                    replace BK389 : Aside0 (w46.heap[gb389]? = some (.cells #[.int .i64 a0_0, .int .i64 a0_1, .int .i64 a0_2, .int .i64 a0_3] 23 (0, 0))) := ⟨h4_⟩
                                    replace BK392 : Aside0 (w46.heap[gb392]? = some (.cells #[.int .i64 x393000_2, .int .i64 x393001_2, .slice Ao40 x393002_2.length co40, .slice Ao41 x393003_2.length co41] 27 (0, 0))) := ⟨h5_⟩
                                    replace HB : Aside0 (Below w.heap.size w w46) := ⟨h22_⟩
                                    clear h0_ h1_ h2_ h3_ h4_ h5_ h6_ h7_ h8_ h9_ h10_ h11_ h12_ h13_ h14_ h15_ h16_ h17_ h18_ h19_ h20_ h21_ h22_
                                    have hHeld : w46.cell? ⟨gb389, 0, none⟩ = some (.int .i64 a0_0) ∧ w46.cell? ⟨gb389, 1, none⟩ = some (.int .i64 a0_1) ∧ w46.cell? ⟨gb389, 2, none⟩ = some (.int .i64 a0_2) ∧ w46.cell? ⟨gb389, 3, none⟩ = some (.int .i64 a0_3) ∧ w46.cell? ⟨gb392, 0, none⟩ = some (.int .i64 x393000_2) ∧ w46.cell? ⟨gb392, 1, none⟩ = some (.int .i64 x393001_2) ∧ w46.cell? ⟨gb392, 2, none⟩ = some (.slice Ao40 x393002_2.length co40) ∧ w46.cell? ⟨gb392, 3, none⟩ = some (.slice Ao41 x393003_2.length co41) ∧ w46.cell? (ad398.add ((x8_2).toNat * 2)) = some (.int .i64 ((rd_T45 l1 x8_2).f0)) ∧ w46.cell? ⟨(ad398.add ((x8_2).toNat * 2)).block, (ad398.add ((x8_2).toNat * 2)).off + 1, none⟩ = some (.int .i64 ((rd_T45 l1 x8_2).f1)) := hS_
                                    obtain ⟨Ao49, co49, eo49⟩ := Kd.V_slice HO405.out
                                    (first | subst eo49 | (injection eo49 with f1_ f2_ f3_; have f4_ := f1_.symm; have f5_ := f3_.symm; clear f1_ f2_ f3_; subst f4_; subst f5_))
                                    obtain ⟨Ao51, co51, eo51⟩ := Kd.V_slice HO408.out
                                    (first | subst eo51 | (injection eo51 with f1_ f2_ f3_; have f4_ := f1_.symm; have f5_ := f3_.symm; clear f1_ f2_ f3_; subst f4_; subst f5_))
                                    refine norm_ (a' := ?_) ?_ ?_
                                    rotate_left
                                    · simp only [putAll, Act.put, List.setIfInBounds_toArray, List.set_cons_zero, List.set_cons_succ]
                                      rfl
                                    refine one_ (i := 14) (N := none) #[true, true, true, true, true, true, true, true, true, true, true, true, true, true, true, false] rfl rfl (one_of HT_.out (by kernel_rfl)) (by decide) (fun K hK => ?_)
                                    have hs47 : w46.cell? ⟨gb413, 0, none⟩ = some (.int .i64 0) := (blk_cell BK413.out 0).trans rfl
                                    have hfs47 := blk_frozen BK413.out 0
                                    have hns47_0 := NB389_413.out
                                    have hns47_1 := NB392_413.out
                                    have hns47_3 := NB414_413.out
                                    have hms47_0 := NB413_389.out
                                    have hms47_1 := NB413_392.out
                                    have hms47_3 := NB413_414.out
                                    have hs48 : w46.cell? ⟨gb413, 1, none⟩ = some (.int .i64 0) := (blk_cell BK413.out 1).trans rfl
                                    have hfs48 := blk_frozen BK413.out 1
                                    have hns48_0 := NB389_413.out
                                    have hns48_1 := NB392_413.out
                                    have hns48_3 := NB414_413.out
                                    have hms48_0 := NB413_389.out
                                    have hms48_1 := NB413_392.out
                                    have hms48_3 := NB413_414.out
                                    have hs50 : w46.cell? ⟨gb413, 2, none⟩ = some (.slice none 0 0) := (blk_cell BK413.out 2).trans rfl
                                    have hfs50 := blk_frozen BK413.out 2
                                    have hns50_0 := NB389_413.out
                                    have hns50_1 := NB392_413.out
                                    have hns50_3 := NB414_413.out
                                    have hms50_0 := NB413_389.out
                                    have hms50_1 := NB413_392.out
                                    have hms50_3 := NB413_414.out
                                    have hs52 : w46.cell? ⟨gb413, 3, none⟩ = some (.slice none 0 0) := (blk_cell BK413.out 3).trans rfl
                                    have hfs52 := blk_frozen BK413.out 3
                                    have hns52_0 := NB389_413.out
                                    have hns52_1 := NB392_413.out
                                    have hns52_3 := NB414_413.out
                                    have hms52_0 := NB413_389.out
                                    have hms52_1 := NB413_392.out
                                    have hms52_3 := NB413_414.out
                                    refine skip_ (w1 := ?_) (by rfl) rfl ?_ ?_
                                    rotate_left
                                    · go_simp
                                      rfl
                                    refine hK.out _ _ ⟨((cell_far (p := ⟨gb413, _, none⟩) NB389_413.out _).trans (((cell_far (p := ⟨gb413, _, none⟩) NB389_413.out _).trans (((cell_far (p := ⟨gb413, _, none⟩) NB389_413.out _).trans (((cell_far (p := ⟨gb413, _, none⟩) NB389_413.out _).trans (hHeld.1)))))))), ((cell_far (p := ⟨gb413, _, none⟩) NB389_413.out _).trans (((cell_far (p := ⟨gb413, _, none⟩) NB389_413.out _).trans (((cell_far (p := ⟨gb413, _, none⟩) NB389_413.out _).trans (((cell_far (p := ⟨gb413, _, none⟩) NB389_413.out _).trans (hHeld.2.1)))))))), ((cell_far (p := ⟨gb413, _, none⟩) NB389_413.out _).trans (((cell_far (p := ⟨gb413, _, none⟩) NB389_413.out _).trans (((cell_far (p := ⟨gb413, _, none⟩) NB389_413.out _).trans (((cell_far (p := ⟨gb413, _, none⟩) NB389_413.out _).trans (hHeld.2.2.1)))))))), ((cell_far (p := ⟨gb413, _, none⟩) NB389_413.out _).trans (((cell_far (p := ⟨gb413, _, none⟩) NB389_413.out _).trans (((cell_far (p := ⟨gb413, _, none⟩) NB389_413.out _).trans (((cell_far (p := ⟨gb413, _, none⟩) NB389_413.out _).trans (hHeld.2.2.2.1)))))))), ((cell_far (p := ⟨gb413, _, none⟩) NB392_413.out _).trans (((cell_far (p := ⟨gb413, _, none⟩) NB392_413.out _).trans (((cell_far (p := ⟨gb413, _, none⟩) NB392_413.out _).trans (((cell_far (p := ⟨gb413, _, none⟩) NB392_413.out _).trans (hHeld.2.2.2.2.1)))))))), ((cell_far (p := ⟨gb413, _, none⟩) NB392_413.out _).trans (((cell_far (p := ⟨gb413, _, none⟩) NB392_413.out _).trans (((cell_far (p := ⟨gb413, _, none⟩) NB392_413.out _).trans (((cell_far (p := ⟨gb413, _, none⟩) NB392_413.out _).trans (hHeld.2.2.2.2.2.1)))))))), ((cell_far (p := ⟨gb413, _, none⟩) NB392_413.out _).trans (((cell_far (p := ⟨gb413, _, none⟩) NB392_413.out _).trans (((cell_far (p := ⟨gb413, _, none⟩) NB392_413.out _).trans (((cell_far (p := ⟨gb413, _, none⟩) NB392_413.out _).trans (hHeld.2.2.2.2.2.2.1)))))))), ((cell_far (p := ⟨gb413, _, none⟩) NB392_413.out _).trans (((cell_far (p := ⟨gb413, _, none⟩) NB392_413.out _).trans (((cell_far (p := ⟨gb413, _, none⟩) NB392_413.out _).trans (((cell_far (p := ⟨gb413, _, none⟩) NB392_413.out _).trans (hHeld.2.2.2.2.2.2.2.1)))))))), ((cell_far (p := ⟨gb413, _, none⟩) (by first | exact Nat.ne_of_lt (Nat.lt_of_lt_of_le (by have := World.block_lt_of_cell? _ _ hw400_0; first | rwa [add_block] at this | exact this) GW413.out) | (rw [add_block]; exact Nat.ne_of_lt (Nat.lt_of_lt_of_le (by have := World.block_lt_of_cell? _ _ hw400_0; first | rwa [add_block] at this | exact this) GW413.out)) | (show (Addr.add _ _).block ≠ _; rw [add_block]; exact Nat.ne_of_lt (Nat.lt_of_lt_of_le (by have := World.block_lt_of_cell? _ _ hw400_0; first | rwa [add_block] at this | exact this) GW413.out)) | (dsimp only; exact Nat.ne_of_lt (Nat.lt_of_lt_of_le (by have := World.block_lt_of_cell? _ _ hw400_0; first | rwa [add_block] at this | exact this) GW413.out))) _).trans (((cell_far (p := ⟨gb413, _, none⟩) (by first | exact Nat.ne_of_lt (Nat.lt_of_lt_of_le (by have := World.block_lt_of_cell? _ _ hw400_0; first | rwa [add_block] at this | exact this) GW413.out) | (rw [add_block]; exact Nat.ne_of_lt (Nat.lt_of_lt_of_le (by have := World.block_lt_of_cell? _ _ hw400_0; first | rwa [add_block] at this | exact this) GW413.out)) | (show (Addr.add _ _).block ≠ _; rw [add_block]; exact Nat.ne_of_lt (Nat.lt_of_lt_of_le (by have := World.block_lt_of_cell? _ _ hw400_0; first | rwa [add_block] at this | exact this) GW413.out)) | (dsimp only; exact Nat.ne_of_lt (Nat.lt_of_lt_of_le (by have := World.block_lt_of_cell? _ _ hw400_0; first | rwa [add_block] at this | exact this) GW413.out))) _).trans (((cell_far (p := ⟨gb413, _, none⟩) (by first | exact Nat.ne_of_lt (Nat.lt_of_lt_of_le (by have := World.block_lt_of_cell? _ _ hw400_0; first | rwa [add_block] at this | exact this) GW413.out) | (rw [add_block]; exact Nat.ne_of_lt (Nat.lt_of_lt_of_le (by have := World.block_lt_of_cell? _ _ hw400_0; first | rwa [add_block] at this | exact this) GW413.out)) | (show (Addr.add _ _).block ≠ _; rw [add_block]; exact Nat.ne_of_lt (Nat.lt_of_lt_of_le (by have := World.block_lt_of_cell? _ _ hw400_0; first | rwa [add_block] at this | exact this) GW413.out)) | (dsimp only; exact Nat.ne_of_lt (Nat.lt_of_lt_of_le (by have := World.block_lt_of_cell? _ _ hw400_0; first | rwa [add_block] at this | exact this) GW413.out))) _).trans (((cell_far (p := ⟨gb413, _, none⟩) (by first | exact Nat.ne_of_lt (Nat.lt_of_lt_of_le (by have := World.block_lt_of_cell? _ _ hw400_0; first | rwa [add_block] at this | exact this) GW413.out) | (rw [add_block]; exact Nat.ne_of_lt (Nat.lt_of_lt_of_le (by have := World.block_lt_of_cell? _ _ hw400_0; first | rwa [add_block] at this | exact this) GW413.out)) | (show (Addr.add _ _).block ≠ _; rw [add_block]; exact Nat.ne_of_lt (Nat.lt_of_lt_of_le (by have := World.block_lt_of_cell? _ _ hw400_0; first | rwa [add_block] at this | exact this) GW413.out)) | (dsimp only; exact Nat.ne_of_lt (Nat.lt_of_lt_of_le (by have := World.block_lt_of_cell? _ _ hw400_0; first | rwa [add_block] at this | exact this) GW413.out))) _).trans (hHeld.2.2.2.2.2.2.2.2.1)))))))), ((cell_far (p := ⟨gb413, _, none⟩) (by first | exact Nat.ne_of_lt (Nat.lt_of_lt_of_le (by have := World.block_lt_of_cell? _ _ hw400_1; first | rwa [add_block] at this | exact this) GW413.out) | (rw [add_block]; exact Nat.ne_of_lt (Nat.lt_of_lt_of_le (by have := World.block_lt_of_cell? _ _ hw400_1; first | rwa [add_block] at this | exact this) GW413.out)) | (show (Addr.add _ _).block ≠ _; rw [add_block]; exact Nat.ne_of_lt (Nat.lt_of_lt_of_le (by have := World.block_lt_of_cell? _ _ hw400_1; first | rwa [add_block] at this | exact this) GW413.out)) | (dsimp only; exact Nat.ne_of_lt (Nat.lt_of_lt_of_le (by have := World.block_lt_of_cell? _ _ hw400_1; first | rwa [add_block] at this | exact this) GW413.out))) _).trans (((cell_far (p := ⟨gb413, _, none⟩) (by first | exact Nat.ne_of_lt (Nat.lt_of_lt_of_le (by have := World.block_lt_of_cell? _ _ hw400_1; first | rwa [add_block] at this | exact this) GW413.out) | (rw [add_block]; exact Nat.ne_of_lt (Nat.lt_of_lt_of_le (by have := World.block_lt_of_cell? _ _ hw400_1; first | rwa [add_block] at this | exact this) GW413.out)) | (show (Addr.add _ _).block ≠ _; rw [add_block]; exact Nat.ne_of_lt (Nat.lt_of_lt_of_le (by have := World.block_lt_of_cell? _ _ hw400_1; first | rwa [add_block] at this | exact this) GW413.out)) | (dsimp only; exact Nat.ne_of_lt (Nat.lt_of_lt_of_le (by have := World.block_lt_of_cell? _ _ hw400_1; first | rwa [add_block] at this | exact this) GW413.out))) _).trans (((cell_far (p := ⟨gb413, _, none⟩) (by first | exact Nat.ne_of_lt (Nat.lt_of_lt_of_le (by have := World.block_lt_of_cell? _ _ hw400_1; first | rwa [add_block] at this | exact this) GW413.out) | (rw [add_block]; exact Nat.ne_of_lt (Nat.lt_of_lt_of_le (by have := World.block_lt_of_cell? _ _ hw400_1; first | rwa [add_block] at this | exact this) GW413.out)) | (show (Addr.add _ _).block ≠ _; rw [add_block]; exact Nat.ne_of_lt (Nat.lt_of_lt_of_le (by have := World.block_lt_of_cell? _ _ hw400_1; first | rwa [add_block] at this | exact this) GW413.out)) | (dsimp only; exact Nat.ne_of_lt (Nat.lt_of_lt_of_le (by have := World.block_lt_of_cell? _ _ hw400_1; first | rwa [add_block] at this | exact this) GW413.out))) _).trans (((cell_far (p := ⟨gb413, _, none⟩) (by first | exact Nat.ne_of_lt (Nat.lt_of_lt_of_le (by have := World.block_lt_of_cell? _ _ hw400_1; first | rwa [add_block] at this | exact this) GW413.out) | (rw [add_block]; exact Nat.ne_of_lt (Nat.lt_of_lt_of_le (by have := World.block_lt_of_cell? _ _ hw400_1; first | rwa [add_block] at this | exact this) GW413.out)) | (show (Addr.add _ _).block ≠ _; rw [add_block]; exact Nat.ne_of_lt (Nat.lt_of_lt_of_le (by have := World.block_lt_of_cell? _ _ hw400_1; first | rwa [add_block] at this | exact this) GW413.out)) | (dsimp only; exact Nat.ne_of_lt (Nat.lt_of_lt_of_le (by have := World.block_lt_of_cell? _ _ hw400_1; first | rwa [add_block] at this | exact this) GW413.out))) _).trans (hHeld.2.2.2.2.2.2.2.2.2))))))))⟩ (fun hHeld => ?_)
                                    clear hK K
                                    refine one_ (i := 15) (N := none) #[true, true, true, true, true, true, true, true, true, true, true, true, true, true, true, true] rfl rfl (one_of HT_.out (by kernel_rfl)) (by decide) (fun K hK => ?_)
                                    have hs53 : w46.cell? ⟨gb414, 0, none⟩ = some (.bool false) := (blk_cell BK414.out 0).trans rfl
                                    have hfs53 := blk_frozen BK414.out 0
                                    have hns53_0 := NB389_414.out
                                    have hns53_1 := NB392_414.out
                                    have hns53_2 := NB413_414.out
                                    have hms53_0 := NB414_389.out
                                    have hms53_1 := NB414_392.out
                                    have hms53_2 := NB414_413.out
                                    have hs54 : w46.cell? ⟨gb414, 1, none⟩ = some (.int .i64 0) := (blk_cell BK414.out 1).trans rfl
                                    have hfs54 := blk_frozen BK414.out 1
                                    have hns54_0 := NB389_414.out
                                    have hns54_1 := NB392_414.out
                                    have hns54_2 := NB413_414.out
                                    have hms54_0 := NB414_389.out
                                    have hms54_1 := NB414_392.out
                                    have hms54_2 := NB414_413.out
                                    have hs55 : w46.cell? ⟨gb414, 2, none⟩ = some (.int .i64 0) := (blk_cell BK414.out 2).trans rfl
                                    have hfs55 := blk_frozen BK414.out 2
                                    have hns55_0 := NB389_414.out
                                    have hns55_1 := NB392_414.out
                                    have hns55_2 := NB413_414.out
                                    have hms55_0 := NB414_389.out
                                    have hms55_1 := NB414_392.out
                                    have hms55_2 := NB414_413.out
                                    have hs56 : w46.cell? ⟨gb414, 3, none⟩ = some (.int .i64 0) := (blk_cell BK414.out 3).trans rfl
                                    have hfs56 := blk_frozen BK414.out 3
                                    have hns56_0 := NB389_414.out
                                    have hns56_1 := NB392_414.out
                                    have hns56_2 := NB413_414.out
                                    have hms56_0 := NB414_389.out
                                    have hms56_1 := NB414_392.out
                                    have hms56_2 := NB414_413.out
                                    refine skip_ (w1 := ?_) (by rfl) rfl ?_ ?_
                                    rotate_left
                                    · go_simp
                                      rfl
                                    refine hK.out _ _ ⟨((cell_far (p := ⟨gb414, _, none⟩) NB389_414.out _).trans (((cell_far (p := ⟨gb414, _, none⟩) NB389_414.out _).trans (((cell_far (p := ⟨gb414, _, none⟩) NB389_414.out _).trans (((cell_far (p := ⟨gb414, _, none⟩) NB389_414.out _).trans (hHeld.1)))))))), ((cell_far (p := ⟨gb414, _, none⟩) NB389_414.out _).trans (((cell_far (p := ⟨gb414, _, none⟩) NB389_414.out _).trans (((cell_far (p := ⟨gb414, _, none⟩) NB389_414.out _).trans (((cell_far (p := ⟨gb414, _, none⟩) NB389_414.out _).trans (hHeld.2.1)))))))), ((cell_far (p := ⟨gb414, _, none⟩) NB389_414.out _).trans (((cell_far (p := ⟨gb414, _, none⟩) NB389_414.out _).trans (((cell_far (p := ⟨gb414, _, none⟩) NB389_414.out _).trans (((cell_far (p := ⟨gb414, _, none⟩) NB389_414.out _).trans (hHeld.2.2.1)))))))), ((cell_far (p := ⟨gb414, _, none⟩) NB389_414.out _).trans (((cell_far (p := ⟨gb414, _, none⟩) NB389_414.out _).trans (((cell_far (p := ⟨gb414, _, none⟩) NB389_414.out _).trans (((cell_far (p := ⟨gb414, _, none⟩) NB389_414.out _).trans (hHeld.2.2.2.1)))))))), ((cell_far (p := ⟨gb414, _, none⟩) NB392_414.out _).trans (((cell_far (p := ⟨gb414, _, none⟩) NB392_414.out _).trans (((cell_far (p := ⟨gb414, _, none⟩) NB392_414.out _).trans (((cell_far (p := ⟨gb414, _, none⟩) NB392_414.out _).trans (hHeld.2.2.2.2.1)))))))), ((cell_far (p := ⟨gb414, _, none⟩) NB392_414.out _).trans (((cell_far (p := ⟨gb414, _, none⟩) NB392_414.out _).trans (((cell_far (p := ⟨gb414, _, none⟩) NB392_414.out _).trans (((cell_far (p := ⟨gb414, _, none⟩) NB392_414.out _).trans (hHeld.2.2.2.2.2.1)))))))), ((cell_far (p := ⟨gb414, _, none⟩) NB392_414.out _).trans (((cell_far (p := ⟨gb414, _, none⟩) NB392_414.out _).trans (((cell_far (p := ⟨gb414, _, none⟩) NB392_414.out _).trans (((cell_far (p := ⟨gb414, _, none⟩) NB392_414.out _).trans (hHeld.2.2.2.2.2.2.1)))))))), ((cell_far (p := ⟨gb414, _, none⟩) NB392_414.out _).trans (((cell_far (p := ⟨gb414, _, none⟩) NB392_414.out _).trans (((cell_far (p := ⟨gb414, _, none⟩) NB392_414.out _).trans (((cell_far (p := ⟨gb414, _, none⟩) NB392_414.out _).trans (hHeld.2.2.2.2.2.2.2.1)))))))), ((cell_far (p := ⟨gb414, _, none⟩) (by first | exact Nat.ne_of_lt (Nat.lt_of_lt_of_le (by have := World.block_lt_of_cell? _ _ hw400_0; first | rwa [add_block] at this | exact this) GW414.out) | (rw [add_block]; exact Nat.ne_of_lt (Nat.lt_of_lt_of_le (by have := World.block_lt_of_cell? _ _ hw400_0; first | rwa [add_block] at this | exact this) GW414.out)) | (show (Addr.add _ _).block ≠ _; rw [add_block]; exact Nat.ne_of_lt (Nat.lt_of_lt_of_le (by have := World.block_lt_of_cell? _ _ hw400_0; first | rwa [add_block] at this | exact this) GW414.out)) | (dsimp only; exact Nat.ne_of_lt (Nat.lt_of_lt_of_le (by have := World.block_lt_of_cell? _ _ hw400_0; first | rwa [add_block] at this | exact this) GW414.out))) _).trans (((cell_far (p := ⟨gb414, _, none⟩) (by first | exact Nat.ne_of_lt (Nat.lt_of_lt_of_le (by have := World.block_lt_of_cell? _ _ hw400_0; first | rwa [add_block] at this | exact this) GW414.out) | (rw [add_block]; exact Nat.ne_of_lt (Nat.lt_of_lt_of_le (by have := World.block_lt_of_cell? _ _ hw400_0; first | rwa [add_block] at this | exact this) GW414.out)) | (show (Addr.add _ _).block ≠ _; rw [add_block]; exact Nat.ne_of_lt (Nat.lt_of_lt_of_le (by have := World.block_lt_of_cell? _ _ hw400_0; first | rwa [add_block] at this | exact this) GW414.out)) | (dsimp only; exact Nat.ne_of_lt (Nat.lt_of_lt_of_le (by have := World.block_lt_of_cell? _ _ hw400_0; first | rwa [add_block] at this | exact this) GW414.out))) _).trans (((cell_far (p := ⟨gb414, _, none⟩) (by first | exact Nat.ne_of_lt (Nat.lt_of_lt_of_le (by have := World.block_lt_of_cell? _ _ hw400_0; first | rwa [add_block] at this | exact this) GW414.out) | (rw [add_block]; exact Nat.ne_of_lt (Nat.lt_of_lt_of_le (by have := World.block_lt_of_cell? _ _ hw400_0; first | rwa [add_block] at this | exact this) GW414.out)) | (show (Addr.add _ _).block ≠ _; rw [add_block]; exact Nat.ne_of_lt (Nat.lt_of_lt_of_le (by have := World.block_lt_of_cell? _ _ hw400_0; first | rwa [add_block] at this | exact this) GW414.out)) | (dsimp only; exact Nat.ne_of_lt (Nat.lt_of_lt_of_le (by have := World.block_lt_of_cell? _ _ hw400_0; first | rwa [add_block] at this | exact this) GW414.out))) _).trans (((cell_far (p := ⟨gb414, _, none⟩) (by first | exact Nat.ne_of_lt (Nat.lt_of_lt_of_le (by have := World.block_lt_of_cell? _ _ hw400_0; first | rwa [add_block] at this | exact this) GW414.out) | (rw [add_block]; exact Nat.ne_of_lt (Nat.lt_of_lt_of_le (by have := World.block_lt_of_cell? _ _ hw400_0; first | rwa [add_block] at this | exact this) GW414.out)) | (show (Addr.add _ _).block ≠ _; rw [add_block]; exact Nat.ne_of_lt (Nat.lt_of_lt_of_le (by have := World.block_lt_of_cell? _ _ hw400_0; first | rwa [add_block] at this | exact this) GW414.out)) | (dsimp only; exact Nat.ne_of_lt (Nat.lt_of_lt_of_le (by have := World.block_lt_of_cell? _ _ hw400_0; first | rwa [add_block] at this | exact this) GW414.out))) _).trans (hHeld.2.2.2.2.2.2.2.2.1)))))))), ((cell_far (p := ⟨gb414, _, none⟩) (by first | exact Nat.ne_of_lt (Nat.lt_of_lt_of_le (by have := World.block_lt_of_cell? _ _ hw400_1; first | rwa [add_block] at this | exact this) GW414.out) | (rw [add_block]; exact Nat.ne_of_lt (Nat.lt_of_lt_of_le (by have := World.block_lt_of_cell? _ _ hw400_1; first | rwa [add_block] at this | exact this) GW414.out)) | (show (Addr.add _ _).block ≠ _; rw [add_block]; exact Nat.ne_of_lt (Nat.lt_of_lt_of_le (by have := World.block_lt_of_cell? _ _ hw400_1; first | rwa [add_block] at this | exact this) GW414.out)) | (dsimp only; exact Nat.ne_of_lt (Nat.lt_of_lt_of_le (by have := World.block_lt_of_cell? _ _ hw400_1; first | rwa [add_block] at this | exact this) GW414.out))) _).trans (((cell_far (p := ⟨gb414, _, none⟩) (by first | exact Nat.ne_of_lt (Nat.lt_of_lt_of_le (by have := World.block_lt_of_cell? _ _ hw400_1; first | rwa [add_block] at this | exact this) GW414.out) | (rw [add_block]; exact Nat.ne_of_lt (Nat.lt_of_lt_of_le (by have := World.block_lt_of_cell? _ _ hw400_1; first | rwa [add_block] at this | exact this) GW414.out)) | (show (Addr.add _ _).block ≠ _; rw [add_block]; exact Nat.ne_of_lt (Nat.lt_of_lt_of_le (by have := World.block_lt_of_cell? _ _ hw400_1; first | rwa [add_block] at this | exact this) GW414.out)) | (dsimp only; exact Nat.ne_of_lt (Nat.lt_of_lt_of_le (by have := World.block_lt_of_cell? _ _ hw400_1; first | rwa [add_block] at this | exact this) GW414.out))) _).trans (((cell_far (p := ⟨gb414, _, none⟩) (by first | exact Nat.ne_of_lt (Nat.lt_of_lt_of_le (by have := World.block_lt_of_cell? _ _ hw400_1; first | rwa [add_block] at this | exact this) GW414.out) | (rw [add_block]; exact Nat.ne_of_lt (Nat.lt_of_lt_of_le (by have := World.block_lt_of_cell? _ _ hw400_1; first | rwa [add_block] at this | exact this) GW414.out)) | (show (Addr.add _ _).block ≠ _; rw [add_block]; exact Nat.ne_of_lt (Nat.lt_of_lt_of_le (by have := World.block_lt_of_cell? _ _ hw400_1; first | rwa [add_block] at this | exact this) GW414.out)) | (dsimp only; exact Nat.ne_of_lt (Nat.lt_of_lt_of_le (by have := World.block_lt_of_cell? _ _ hw400_1; first | rwa [add_block] at this | exact this) GW414.out))) _).trans (((cell_far (p := ⟨gb414, _, none⟩) (by first | exact Nat.ne_of_lt (Nat.lt_of_lt_of_le (by have := World.block_lt_of_cell? _ _ hw400_1; first | rwa [add_block] at this | exact this) GW414.out) | (rw [add_block]; exact Nat.ne_of_lt (Nat.lt_of_lt_of_le (by have := World.block_lt_of_cell? _ _ hw400_1; first | rwa [add_block] at this | exact this) GW414.out)) | (show (Addr.add _ _).block ≠ _; rw [add_block]; exact Nat.ne_of_lt (Nat.lt_of_lt_of_le (by have := World.block_lt_of_cell? _ _ hw400_1; first | rwa [add_block] at this | exact this) GW414.out)) | (dsimp only; exact Nat.ne_of_lt (Nat.lt_of_lt_of_le (by have := World.block_lt_of_cell? _ _ hw400_1; first | rwa [add_block] at this | exact this) GW414.out))) _).trans (hHeld.2.2.2.2.2.2.2.2.2))))))))⟩ (fun hHeld => ?_)
                                    clear hK K
                                    refine done_ (done_of HT_.out (by kernel_rfl)) ?_
                                    have hnb57 := NB413_389.out
                                    have hnc57 := NB389_413.out
                                    have hnb58 := NB413_392.out
                                    have hnc58 := NB392_413.out
                                    have hnb59 := NB413_414.out
                                    have hnc59 := NB414_413.out
                                    obtain ⟨hcz60_0, hcz60_1, hcz60_2, hcz60_3⟩ := ce4 BK413
                                    obtain ⟨hfz60_0, hfz60_1, hfz60_2, hfz60_3⟩ := fr4 BK413
                                    have hnb61 := NB392_389.out
                                    have hnc61 := NB389_392.out
                                    have hnb62 := NB392_414.out
                                    have hnc62 := NB414_392.out
                                    obtain ⟨hcz63_0, hcz63_1, hcz63_2, hcz63_3⟩ := ce4 BK392
                                    obtain ⟨hfz63_0, hfz63_1, hfz63_2, hfz63_3⟩ := fr4 BK392
                                    try go_wp2_with (first | ((with_reducible refine gate_store (t := 27) (p := 5) rfl ?_); refine store_event (t := 27) (p := 5) (v := ?vo_w64) (w1 := ((((((((((((w46.setCell ⟨gb413, 0, none⟩ (.int .i64 t401)).setCell ⟨gb413, 1, none⟩ (.int .i64 t402)).setCell ⟨gb413, 2, none⟩ (.slice Ao49 t403.length co49)).setCell ⟨gb413, 3, none⟩ (.slice Ao51 t406.length co51)).setCell ⟨gb414, 0, none⟩ (.bool t409)).setCell ⟨gb414, 1, none⟩ (.int .i64 t410)).setCell ⟨gb414, 2, none⟩ (.int .i64 t411)).setCell ⟨gb414, 3, none⟩ (.int .i64 t412)).setCell ⟨gb392, 0, none⟩ (.int .i64 t401)).setCell ⟨gb392, 1, none⟩ (.int .i64 t402)).setCell ⟨gb392, 2, none⟩ (.slice Ao49 t403.length co49)).setCell ⟨gb392, 3, none⟩ (.slice Ao51 t406.length co51))) ?hg ?ho ?hn ?hr ?_; (case ho => rfl); (case hg => rfl); (case hn => rfl); (case hr => first | (go_simp; done) | (go_simp; rfl)); intro w64 hw; replace HO_393002 : Aside0 (Kd.V (Kd.int .i64) 3 w64 w.heap.size (fun k_ => k_ ≠ gb389 ∧ k_ ≠ gb392 ∧ k_ ≠ gb413 ∧ k_ ≠ gb414) (.slice Ao40 x393002_2.length co40) x393002_2) := ⟨(by rw [hw]; exact (by (with_reducible repeat (first | apply Kd.V_alloc | apply Kd.V_drewN | apply Kd.V_drew)); exact Kd.V_mono (Kd.V_far (p := ⟨gb392, 3, none⟩) (Kd.V_far (p := ⟨gb392, 2, none⟩) (Kd.V_far (p := ⟨gb392, 1, none⟩) (Kd.V_far (p := ⟨gb392, 0, none⟩) (Kd.V_far (p := ⟨gb414, 3, none⟩) (Kd.V_far (p := ⟨gb414, 2, none⟩) (Kd.V_far (p := ⟨gb414, 1, none⟩) (Kd.V_far (p := ⟨gb414, 0, none⟩) (Kd.V_far (p := ⟨gb413, 3, none⟩) (Kd.V_far (p := ⟨gb413, 2, none⟩) (Kd.V_far (p := ⟨gb413, 1, none⟩) (Kd.V_far (p := ⟨gb413, 0, none⟩) (Kd.V_mono (Kd.V_mono (Kd.V_mono HO_393002.out (fun k_ hk => (⟨hk, hk.2.2.1⟩ : _ ∧ k_ ≠ gb413))) (fun k_ hk => (⟨hk, hk.1.2.2.2⟩ : _ ∧ k_ ≠ gb414))) (fun k_ hk => (⟨hk, hk.1.1.2.1⟩ : _ ∧ k_ ≠ gb392))) (fun _ hk => hk.1.1.2) (.int .i64 t401)) (fun _ hk => hk.1.1.2) (.int .i64 t402)) (fun _ hk => hk.1.1.2) (.slice Ao49 t403.length co49)) (fun _ hk => hk.1.1.2) (.slice Ao51 t406.length co51)) (fun _ hk => hk.1.2) (.bool t409)) (fun _ hk => hk.1.2) (.int .i64 t410)) (fun _ hk => hk.1.2) (.int .i64 t411)) (fun _ hk => hk.1.2) (.int .i64 t412)) (fun _ hk => hk.2) (.int .i64 t401)) (fun _ hk => hk.2) (.int .i64 t402)) (fun _ hk => hk.2) (.slice Ao49 t403.length co49)) (fun _ hk => hk.2) (.slice Ao51 t406.length co51)) (fun _ hk => ⟨hk.1.1.1.1, ⟨hk.1.1.1.2.1, ⟨hk.1.1.1.2.2.1, hk.1.1.1.2.2.2⟩⟩⟩)))⟩; replace HO_393003 : Aside0 (Kd.V k53 53 w64 w.heap.size (fun k_ => k_ ≠ gb389 ∧ k_ ≠ gb392 ∧ k_ ≠ gb413 ∧ k_ ≠ gb414) (.slice Ao41 x393003_2.length co41) x393003_2) := ⟨(by rw [hw]; exact (by (with_reducible repeat (first | apply Kd.V_alloc | apply Kd.V_drewN | apply Kd.V_drew)); exact Kd.V_mono (Kd.V_far (p := ⟨gb392, 3, none⟩) (Kd.V_far (p := ⟨gb392, 2, none⟩) (Kd.V_far (p := ⟨gb392, 1, none⟩) (Kd.V_far (p := ⟨gb392, 0, none⟩) (Kd.V_far (p := ⟨gb414, 3, none⟩) (Kd.V_far (p := ⟨gb414, 2, none⟩) (Kd.V_far (p := ⟨gb414, 1, none⟩) (Kd.V_far (p := ⟨gb414, 0, none⟩) (Kd.V_far (p := ⟨gb413, 3, none⟩) (Kd.V_far (p := ⟨gb413, 2, none⟩) (Kd.V_far (p := ⟨gb413, 1, none⟩) (Kd.V_far (p := ⟨gb413, 0, none⟩) (Kd.V_mono (Kd.V_mono (Kd.V_mono HO_393003.out (fun k_ hk => (⟨hk, hk.2.2.1⟩ : _ ∧ k_ ≠ gb413))) (fun k_ hk => (⟨hk, hk.1.2.2.2⟩ : _ ∧ k_ ≠ gb414))) (fun k_ hk => (⟨hk, hk.1.1.2.1⟩ : _ ∧ k_ ≠ gb392))) (fun _ hk => hk.1.1.2) (.int .i64 t401)) (fun _ hk => hk.1.1.2) (.int .i64 t402)) (fun _ hk => hk.1.1.2) (.slice Ao49 t403.length co49)) (fun _ hk => hk.1.1.2) (.slice Ao51 t406.length co51)) (fun _ hk => hk.1.2) (.bool t409)) (fun _ hk => hk.1.2) (.int .i64 t410)) (fun _ hk => hk.1.2) (.int .i64 t411)) (fun _ hk => hk.1.2) (.int .i64 t412)) (fun _ hk => hk.2) (.int .i64 t401)) (fun _ hk => hk.2) (.int .i64 t402)) (fun _ hk => hk.2) (.slice Ao49 t403.length co49)) (fun _ hk => hk.2) (.slice Ao51 t406.length co51)) (fun _ hk => ⟨hk.1.1.1.1, ⟨hk.1.1.1.2.1, ⟨hk.1.1.1.2.2.1, hk.1.1.1.2.2.2⟩⟩⟩)))⟩; replace HO405 : Aside0 (Kd.V (Kd.int .i64) 3 w64 w.heap.size (fun k_ => k_ ≠ gb389 ∧ k_ ≠ gb392 ∧ k_ ≠ gb413 ∧ k_ ≠ gb414) (.slice Ao49 t403.length co49) t403) := ⟨(by rw [hw]; exact (by (with_reducible repeat (first | apply Kd.V_alloc | apply Kd.V_drewN | apply Kd.V_drew)); exact Kd.V_mono (Kd.V_far (p := ⟨gb392, 3, none⟩) (Kd.V_far (p := ⟨gb392, 2, none⟩) (Kd.V_far (p := ⟨gb392, 1, none⟩) (Kd.V_far (p := ⟨gb392, 0, none⟩) (Kd.V_far (p := ⟨gb414, 3, none⟩) (Kd.V_far (p := ⟨gb414, 2, none⟩) (Kd.V_far (p := ⟨gb414, 1, none⟩) (Kd.V_far (p := ⟨gb414, 0, none⟩) (Kd.V_far (p := ⟨gb413, 3, none⟩) (Kd.V_far (p := ⟨gb413, 2, none⟩) (Kd.V_far (p := ⟨gb413, 1, none⟩) (Kd.V_far (p := ⟨gb413, 0, none⟩) (Kd.V_mono (Kd.V_mono (Kd.V_mono HO405.out (fun k_ hk => (⟨hk, hk.2.2.1⟩ : _ ∧ k_ ≠ gb413))) (fun k_ hk => (⟨hk, hk.1.2.2.2⟩ : _ ∧ k_ ≠ gb414))) (fun k_ hk => (⟨hk, hk.1.1.2.1⟩ : _ ∧ k_ ≠ gb392))) (fun _ hk => hk.1.1.2) (.int .i64 t401)) (fun _ hk => hk.1.1.2) (.int .i64 t402)) (fun _ hk => hk.1.1.2) (.slice Ao49 t403.length co49)) (fun _ hk => hk.1.1.2) (.slice Ao51 t406.length co51)) (fun _ hk => hk.1.2) (.bool t409)) (fun _ hk => hk.1.2) (.int .i64 t410)) (fun _ hk => hk.1.2) (.int .i64 t411)) (fun _ hk => hk.1.2) (.int .i64 t412)) (fun _ hk => hk.2) (.int .i64 t401)) (fun _ hk => hk.2) (.int .i64 t402)) (fun _ hk => hk.2) (.slice Ao49 t403.length co49)) (fun _ hk => hk.2) (.slice Ao51 t406.length co51)) (fun _ hk => ⟨hk.1.1.1.1, ⟨hk.1.1.1.2.1, ⟨hk.1.1.1.2.2.1, hk.1.1.1.2.2.2⟩⟩⟩)))⟩; replace HO408 : Aside0 (Kd.V k53 53 w64 w.heap.size (fun k_ => k_ ≠ gb389 ∧ k_ ≠ gb392 ∧ k_ ≠ gb413 ∧ k_ ≠ gb414) (.slice Ao51 t406.length co51) t406) := ⟨(by rw [hw]; exact (by (with_reducible repeat (first | apply Kd.V_alloc | apply Kd.V_drewN | apply Kd.V_drew)); exact Kd.V_mono (Kd.V_far (p := ⟨gb392, 3, none⟩) (Kd.V_far (p := ⟨gb392, 2, none⟩) (Kd.V_far (p := ⟨gb392, 1, none⟩) (Kd.V_far (p := ⟨gb392, 0, none⟩) (Kd.V_far (p := ⟨gb414, 3, none⟩) (Kd.V_far (p := ⟨gb414, 2, none⟩) (Kd.V_far (p := ⟨gb414, 1, none⟩) (Kd.V_far (p := ⟨gb414, 0, none⟩) (Kd.V_far (p := ⟨gb413, 3, none⟩) (Kd.V_far (p := ⟨gb413, 2, none⟩) (Kd.V_far (p := ⟨gb413, 1, none⟩) (Kd.V_far (p := ⟨gb413, 0, none⟩) (Kd.V_mono (Kd.V_mono (Kd.V_mono HO408.out (fun k_ hk => (⟨hk, hk.2.2.1⟩ : _ ∧ k_ ≠ gb413))) (fun k_ hk => (⟨hk, hk.1.2.2.2⟩ : _ ∧ k_ ≠ gb414))) (fun k_ hk => (⟨hk, hk.1.1.2.1⟩ : _ ∧ k_ ≠ gb392))) (fun _ hk => hk.1.1.2) (.int .i64 t401)) (fun _ hk => hk.1.1.2) (.int .i64 t402)) (fun _ hk => hk.1.1.2) (.slice Ao49 t403.length co49)) (fun _ hk => hk.1.1.2) (.slice Ao51 t406.length co51)) (fun _ hk => hk.1.2) (.bool t409)) (fun _ hk => hk.1.2) (.int .i64 t410)) (fun _ hk => hk.1.2) (.int .i64 t411)) (fun _ hk => hk.1.2) (.int .i64 t412)) (fun _ hk => hk.2) (.int .i64 t401)) (fun _ hk => hk.2) (.int .i64 t402)) (fun _ hk => hk.2) (.slice Ao49 t403.length co49)) (fun _ hk => hk.2) (.slice Ao51 t406.length co51)) (fun _ hk => ⟨hk.1.1.1.1, ⟨hk.1.1.1.2.1, ⟨hk.1.1.1.2.2.1, hk.1.1.1.2.2.2⟩⟩⟩)))⟩; replace BK389 : Aside0 (w64.heap[gb389]? = some (.cells #[.int .i64 a0_0, .int .i64 a0_1, .int .i64 a0_2, .int .i64 a0_3] 23 (0, 0))) := ⟨(by rw [hw]; exact (by (with_reducible repeat (first | refine blk_drewN ?_ _ | refine blk_drew ?_ | refine blk_alloc ?_ _)); refine blk_far ?_ NB389_392.out _; (with_reducible repeat (first | refine blk_drewN ?_ _ | refine blk_drew ?_ | refine blk_alloc ?_ _)); refine blk_far ?_ NB389_392.out _; (with_reducible repeat (first | refine blk_drewN ?_ _ | refine blk_drew ?_ | refine blk_alloc ?_ _)); refine blk_far ?_ NB389_392.out _; (with_reducible repeat (first | refine blk_drewN ?_ _ | refine blk_drew ?_ | refine blk_alloc ?_ _)); refine blk_far ?_ NB389_392.out _; (with_reducible repeat (first | refine blk_drewN ?_ _ | refine blk_drew ?_ | refine blk_alloc ?_ _)); refine blk_far ?_ NB389_414.out _; (with_reducible repeat (first | refine blk_drewN ?_ _ | refine blk_drew ?_ | refine blk_alloc ?_ _)); refine blk_far ?_ NB389_414.out _; (with_reducible repeat (first | refine blk_drewN ?_ _ | refine blk_drew ?_ | refine blk_alloc ?_ _)); refine blk_far ?_ NB389_414.out _; (with_reducible repeat (first | refine blk_drewN ?_ _ | refine blk_drew ?_ | refine blk_alloc ?_ _)); refine blk_far ?_ NB389_414.out _; (with_reducible repeat (first | refine blk_drewN ?_ _ | refine blk_drew ?_ | refine blk_alloc ?_ _)); refine blk_far ?_ NB389_413.out _; (with_reducible repeat (first | refine blk_drewN ?_ _ | refine blk_drew ?_ | refine blk_alloc ?_ _)); refine blk_far ?_ NB389_413.out _; (with_reducible repeat (first | refine blk_drewN ?_ _ | refine blk_drew ?_ | refine blk_alloc ?_ _)); refine blk_far ?_ NB389_413.out _; (with_reducible repeat (first | refine blk_drewN ?_ _ | refine blk_drew ?_ | refine blk_alloc ?_ _)); refine blk_far ?_ NB389_413.out _; (with_reducible repeat (first | refine blk_drewN ?_ _ | refine blk_drew ?_ | refine blk_alloc ?_ _)); exact BK389.out))⟩; replace BK392 : Aside0 (w64.heap[gb392]? = some (.cells #[.int .i64 t401, .int .i64 t402, .slice Ao49 t403.length co49, .slice Ao51 t406.length co51] 27 (0, 0))) := ⟨(by rw [hw]; exact (by (with_reducible repeat (first | refine blk_drewN ?_ _ | refine blk_drew ?_ | refine blk_alloc ?_ _)); refine blk_put (cs := #[.int .i64 t401, .int .i64 t402, .slice Ao49 t403.length co49, .slice Ao41 x393003_2.length co41]) ?_ 3 _ rfl; (with_reducible repeat (first | refine blk_drewN ?_ _ | refine blk_drew ?_ | refine blk_alloc ?_ _)); refine blk_put (cs := #[.int .i64 t401, .int .i64 t402, .slice Ao40 x393002_2.length co40, .slice Ao41 x393003_2.length co41]) ?_ 2 _ rfl; (with_reducible repeat (first | refine blk_drewN ?_ _ | refine blk_drew ?_ | refine blk_alloc ?_ _)); refine blk_put (cs := #[.int .i64 t401, .int .i64 x393001_2, .slice Ao40 x393002_2.length co40, .slice Ao41 x393003_2.length co41]) ?_ 1 _ rfl; (with_reducible repeat (first | refine blk_drewN ?_ _ | refine blk_drew ?_ | refine blk_alloc ?_ _)); refine blk_put (cs := #[.int .i64 x393000_2, .int .i64 x393001_2, .slice Ao40 x393002_2.length co40, .slice Ao41 x393003_2.length co41]) ?_ 0 _ rfl; (with_reducible repeat (first | refine blk_drewN ?_ _ | refine blk_drew ?_ | refine blk_alloc ?_ _)); refine blk_far ?_ NB392_414.out _; (with_reducible repeat (first | refine blk_drewN ?_ _ | refine blk_drew ?_ | refine blk_alloc ?_ _)); refine blk_far ?_ NB392_414.out _; (with_reducible repeat (first | refine blk_drewN ?_ _ | refine blk_drew ?_ | refine blk_alloc ?_ _)); refine blk_far ?_ NB392_414.out _; (with_reducible repeat (first | refine blk_drewN ?_ _ | refine blk_drew ?_ | refine blk_alloc ?_ _)); refine blk_far ?_ NB392_414.out _; (with_reducible repeat (first | refine blk_drewN ?_ _ | refine blk_drew ?_ | refine blk_alloc ?_ _)); refine blk_far ?_ NB392_413.out _; (with_reducible repeat (first | refine blk_drewN ?_ _ | refine blk_drew ?_ | refine blk_alloc ?_ _)); refine blk_far ?_ NB392_413.out _; (with_reducible repeat (first | refine blk_drewN ?_ _ | refine blk_drew ?_ | refine blk_alloc ?_ _)); refine blk_far ?_ NB392_413.out _; (with_reducible repeat (first | refine blk_drewN ?_ _ | refine blk_drew ?_ | refine blk_alloc ?_ _)); refine blk_far ?_ NB392_413.out _; (with_reducible repeat (first | refine blk_drewN ?_ _ | refine blk_drew ?_ | refine blk_alloc ?_ _)); exact BK392.out))⟩; replace BK413 : Aside0 (w64.heap[gb413]? = some (.cells #[.int .i64 t401, .int .i64 t402, .slice Ao49 t403.length co49, .slice Ao51 t406.length co51] 27 (0, 0))) := ⟨(by rw [hw]; exact (by (with_reducible repeat (first | refine blk_drewN ?_ _ | refine blk_drew ?_ | refine blk_alloc ?_ _)); refine blk_far ?_ NB413_392.out _; (with_reducible repeat (first | refine blk_drewN ?_ _ | refine blk_drew ?_ | refine blk_alloc ?_ _)); refine blk_far ?_ NB413_392.out _; (with_reducible repeat (first | refine blk_drewN ?_ _ | refine blk_drew ?_ | refine blk_alloc ?_ _)); refine blk_far ?_ NB413_392.out _; (with_reducible repeat (first | refine blk_drewN ?_ _ | refine blk_drew ?_ | refine blk_alloc ?_ _)); refine blk_far ?_ NB413_392.out _; (with_reducible repeat (first | refine blk_drewN ?_ _ | refine blk_drew ?_ | refine blk_alloc ?_ _)); refine blk_far ?_ NB413_414.out _; (with_reducible repeat (first | refine blk_drewN ?_ _ | refine blk_drew ?_ | refine blk_alloc ?_ _)); refine blk_far ?_ NB413_414.out _; (with_reducible repeat (first | refine blk_drewN ?_ _ | refine blk_drew ?_ | refine blk_alloc ?_ _)); refine blk_far ?_ NB413_414.out _; (with_reducible repeat (first | refine blk_drewN ?_ _ | refine blk_drew ?_ | refine blk_alloc ?_ _)); refine blk_far ?_ NB413_414.out _; (with_reducible repeat (first | refine blk_drewN ?_ _ | refine blk_drew ?_ | refine blk_alloc ?_ _)); refine blk_put (cs := #[.int .i64 t401, .int .i64 t402, .slice Ao49 t403.length co49, .slice none 0 0]) ?_ 3 _ rfl; (with_reducible repeat (first | refine blk_drewN ?_ _ | refine blk_drew ?_ | refine blk_alloc ?_ _)); refine blk_put (cs := #[.int .i64 t401, .int .i64 t402, .slice none 0 0, .slice none 0 0]) ?_ 2 _ rfl; (with_reducible repeat (first | refine blk_drewN ?_ _ | refine blk_drew ?_ | refine blk_alloc ?_ _)); refine blk_put (cs := #[.int .i64 t401, .int .i64 0, .slice none 0 0, .slice none 0 0]) ?_ 1 _ rfl; (with_reducible repeat (first | refine blk_drewN ?_ _ | refine blk_drew ?_ | refine blk_alloc ?_ _)); refine blk_put (cs := #[.int .i64 0, .int .i64 0, .slice none 0 0, .slice none 0 0]) ?_ 0 _ rfl; (with_reducible repeat (first | refine blk_drewN ?_ _ | refine blk_drew ?_ | refine blk_alloc ?_ _)); exact BK413.out))⟩; replace BK414 : Aside0 (w64.heap[gb414]? = some (.cells #[.bool t409, .int .i64 t410, .int .i64 t411, .int .i64 t412] 32 (0, 0))) := ⟨(by rw [hw]; exact (by (with_reducible repeat (first | refine blk_drewN ?_ _ | refine blk_drew ?_ | refine blk_alloc ?_ _)); refine blk_far ?_ NB414_392.out _; (with_reducible repeat (first | refine blk_drewN ?_ _ | refine blk_drew ?_ | refine blk_alloc ?_ _)); refine blk_far ?_ NB414_392.out _; (with_reducible repeat (first | refine blk_drewN ?_ _ | refine blk_drew ?_ | refine blk_alloc ?_ _)); refine blk_far ?_ NB414_392.out _; (with_reducible repeat (first | refine blk_drewN ?_ _ | refine blk_drew ?_ | refine blk_alloc ?_ _)); refine blk_far ?_ NB414_392.out _; (with_reducible repeat (first | refine blk_drewN ?_ _ | refine blk_drew ?_ | refine blk_alloc ?_ _)); refine blk_put (cs := #[.bool t409, .int .i64 t410, .int .i64 t411, .int .i64 0]) ?_ 3 _ rfl; (with_reducible repeat (first | refine blk_drewN ?_ _ | refine blk_drew ?_ | refine blk_alloc ?_ _)); refine blk_put (cs := #[.bool t409, .int .i64 t410, .int .i64 0, .int .i64 0]) ?_ 2 _ rfl; (with_reducible repeat (first | refine blk_drewN ?_ _ | refine blk_drew ?_ | refine blk_alloc ?_ _)); refine blk_put (cs := #[.bool t409, .int .i64 0, .int .i64 0, .int .i64 0]) ?_ 1 _ rfl; (with_reducible repeat (first | refine blk_drewN ?_ _ | refine blk_drew ?_ | refine blk_alloc ?_ _)); refine blk_put (cs := #[.bool false, .int .i64 0, .int .i64 0, .int .i64 0]) ?_ 0 _ rfl; (with_reducible repeat (first | refine blk_drewN ?_ _ | refine blk_drew ?_ | refine blk_alloc ?_ _)); refine blk_far ?_ NB414_413.out _; (with_reducible repeat (first | refine blk_drewN ?_ _ | refine blk_drew ?_ | refine blk_alloc ?_ _)); refine blk_far ?_ NB414_413.out _; (with_reducible repeat (first | refine blk_drewN ?_ _ | refine blk_drew ?_ | refine blk_alloc ?_ _)); refine blk_far ?_ NB414_413.out _; (with_reducible repeat (first | refine blk_drewN ?_ _ | refine blk_drew ?_ | refine blk_alloc ?_ _)); refine blk_far ?_ NB414_413.out _; (with_reducible repeat (first | refine blk_drewN ?_ _ | refine blk_drew ?_ | refine blk_alloc ?_ _)); exact BK414.out))⟩; replace HB : Aside0 (Below w.heap.size w w64) := ⟨(by rw [hw]; exact (bl HB))⟩; clear hw))
                                    replace HO_393002 := Aside0.mk (Kd.V_drew HO_393002.out)
                                    replace HO_393003 := Aside0.mk (Kd.V_drew HO_393003.out)
                                    replace HO405 := Aside0.mk (Kd.V_drew HO405.out)
                                    replace HO408 := Aside0.mk (Kd.V_drew HO408.out)
                                    replace BK389 := Aside0.mk (blk_drew BK389.out)
                                    replace BK392 := Aside0.mk (blk_drew BK392.out)
                                    replace BK413 := Aside0.mk (blk_drew BK413.out)
                                    replace BK414 := Aside0.mk (blk_drew BK414.out)
                                    replace HB := Aside0.mk (below_drew1 HB.out)
                                    have p415 : 0 ≤ (x8_2 : Int) := of_decide_eq_true (by first | (with_reducible assumption) | assumption)
                                    have q415 : x8_2 < (l1.length : Int) := of_decide_eq_true (by first | (with_reducible assumption) | assumption)
                                    obtain ⟨ad415, e415, hx415_0, hx415_1⟩ := at_T45 HR1.out x8_2 p415 q415
                                    have hw415_1 := hx415_1
                                    have hw415_0 := hx415_0
                                    obtain rfl : ad398 = ad415 := (by injection e415)
                                    replace hx415_0 := (HB.out.cell (World.block_lt_of_cell? w _ hx415_0)).trans hx415_0
                                    replace hx415_1 := (HB.out.cell (World.block_lt_of_cell? w _ hx415_1)).trans hx415_1
                                    replace p415 := eq_true p415
                                    replace q415 := eq_true q415
                                    refine start_ (n := 13) (S := fun w' => w'.cell? ⟨gb414, 0, none⟩ = some (.bool t409) ∧ w'.cell? ⟨gb414, 1, none⟩ = some (.int .i64 t410) ∧ w'.cell? ⟨gb414, 2, none⟩ = some (.int .i64 t411) ∧ w'.cell? ⟨gb414, 3, none⟩ = some (.int .i64 t412) ∧ w'.cell? ⟨gb389, 0, none⟩ = some (.int .i64 a0_0) ∧ w'.cell? ⟨gb389, 1, none⟩ = some (.int .i64 a0_1) ∧ w'.cell? ⟨gb389, 2, none⟩ = some (.int .i64 a0_2) ∧ w'.cell? ⟨gb389, 3, none⟩ = some (.int .i64 a0_3) ∧ w'.cell? (ad398.add ((x8_2).toNat * 2)) = some (.int .i64 ((rd_T45 l1 x8_2).f0)) ∧ w'.cell? ⟨(ad398.add ((x8_2).toNat * 2)).block, (ad398.add ((x8_2).toNat * 2)).off + 1, none⟩ = some (.int .i64 ((rd_T45 l1 x8_2).f1))) (ds := []) #[false, false, false, false, false, false, false, false, false, false, false, false, false] (by kernel_rfl) rfl rfl ⟨(blk_cell BK414.out 0).trans rfl, (blk_cell BK414.out 1).trans rfl, (blk_cell BK414.out 2).trans rfl, (blk_cell BK414.out 3).trans rfl, (blk_cell BK389.out 0).trans rfl, (blk_cell BK389.out 1).trans rfl, (blk_cell BK389.out 2).trans rfl, (blk_cell BK389.out 3).trans rfl, ((HB.out.cell (World.block_lt_of_cell? w _ hw415_0)).trans hw415_0), ((HB.out.cell (World.block_lt_of_cell? w _ hw415_1)).trans hw415_1)⟩ (fun hHeld => ?_); refine with_tabW sandglasslaw11_FixedRate.tab16 sandglasslaw11_FixedRate.bits16 (fun HT_ HW_ => ?_)
                                    generalize w64.drew = w65 at HO_393002 HO_393003 HO405 HO408 BK389 BK392 BK413 BK414 HB hx415_0 hx415_1 hHeld ⊢
                                    refine pureA 0 91 HT_ ?_
                                    refine pureA 2 93 HT_ ?_
                                    refine pureA 3 94 HT_ ?_
                                    refine pureA 4 95 HT_ ?_
                                    refine pureA 5 96 HT_ ?_
                                    refine pureA 6 97 HT_ ?_
                                    refine pureA 9 100 HT_ ?_
                                    refine takeA 1 92 HT_ HW_ hHeld ?_
                                    refine takeA 7 98 HT_ HW_ hHeld ?_
                                    refine pureA 8 99 HT_ ?_
                                    refine takeA 10 101 HT_ HW_ hHeld ?_
                                    refine pureA 11 102 HT_ ?_
                                    refine pureA 12 103 HT_ ?_
                                    refine done_ (done_of HT_.out (by kernel_rfl)) ?_
                                    have hnb66 := NB414_389.out
                                    have hnc66 := NB389_414.out
                                    obtain ⟨hcz67_0, hcz67_1, hcz67_2, hcz67_3⟩ := ce4 BK414
                                    obtain ⟨hfz67_0, hfz67_1, hfz67_2, hfz67_3⟩ := fr4 BK414
                                    go_upto_if 105 with (fail)
                                    go_cut [7] (fun v7 wc => ∃ (kq : Nat) (x7_38 : Int), v7 = .int .i64 x7_38 ∧ Aside0 (sandglasslaw11_FixedRate.j4 kq l1 (wrap64 (x6_2 + ((rd_T45 l1 x8_2).f0))) x7_38 x8_2 a0_0 a0_1 a0_2 a0_3 t401 t402 t403 t406 t409 t410 t411 t412 = some r) ∧ Aside0 (kq ≤ kj31) ∧ Aside0 (Kd.V (Kd.int .i64) 3 wc w.heap.size (fun k_ => k_ ≠ gb389 ∧ k_ ≠ gb392 ∧ k_ ≠ gb413 ∧ k_ ≠ gb414) (.slice Ao49 t403.length co49) t403) ∧ Aside0 (Kd.V k53 53 wc w.heap.size (fun k_ => k_ ≠ gb389 ∧ k_ ≠ gb392 ∧ k_ ≠ gb413 ∧ k_ ≠ gb414) (.slice Ao51 t406.length co51) t406) ∧ Aside0 (Kd.V (Kd.int .i64) 3 wc w.heap.size (fun k_ => k_ ≠ gb389 ∧ k_ ≠ gb392 ∧ k_ ≠ gb413 ∧ k_ ≠ gb414) (.slice Ao49 t403.length co49) t403) ∧ Aside0 (Kd.V k53 53 wc w.heap.size (fun k_ => k_ ≠ gb389 ∧ k_ ≠ gb392 ∧ k_ ≠ gb413 ∧ k_ ≠ gb414) (.slice Ao51 t406.length co51) t406) ∧ Aside0 (wc.heap[gb389]? = some (.cells #[.int .i64 a0_0, .int .i64 a0_1, .int .i64 a0_2, .int .i64 a0_3] 23 (0, 0))) ∧ Aside0 (wc.heap[gb392]? = some (.cells #[.int .i64 t401, .int .i64 t402, (.slice Ao49 t403.length co49), (.slice Ao51 t406.length co51)] 27 (0, 0))) ∧ Aside0 (wc.heap[gb413]? = some (.cells #[.int .i64 t401, .int .i64 t402, (.slice Ao49 t403.length co49), (.slice Ao51 t406.length co51)] 27 (0, 0))) ∧ Aside0 (wc.heap[gb414]? = some (.cells #[.bool t409, .int .i64 t410, .int .i64 t411, .int .i64 t412] 32 (0, 0))) ∧ Aside0 (Below w.heap.size w wc))
                                    case first =>
                                      have H := HC39.out
                                      clear HC39
                                      by_cases c68 : t409 = true
                                      · subst c68
                                        rw [if_pos rfl] at H
                                        have H' := Aside0.mk H
                                        clear H
                                        have p416 : 0 ≤ (x8_2 : Int) := of_decide_eq_true (by first | (with_reducible assumption) | assumption)
                                        have q416 : x8_2 < (l1.length : Int) := of_decide_eq_true (by first | (with_reducible assumption) | assumption)
                                        obtain ⟨ad416, e416, hx416_0, hx416_1⟩ := at_T45 HR1.out x8_2 p416 q416
                                        obtain rfl : ad398 = ad416 := (by injection e416)
                                        replace hx416_0 := (HB.out.cell (World.block_lt_of_cell? w _ hx416_0)).trans hx416_0
                                        replace hx416_1 := (HB.out.cell (World.block_lt_of_cell? w _ hx416_1)).trans hx416_1
                                        replace p416 := eq_true p416
                                        replace q416 := eq_true q416
                                        go_wp2
                                        go_meet
                                        case rel => exact ⟨_, (wrap64 (x7_31 + ((rd_T45 l1 x8_2).f1))), (by first | (with_reducible rfl) | rfl | (simp; done) | (simp [*]; done)), H', ⟨by have := HJ2.out; have := HK2.out; have := HJ20.out; have := HJ31.out; first | omega | exact Nat.le_refl _⟩, ⟨by (with_reducible repeat (first | apply Kd.V_alloc | apply Kd.V_drewN | apply Kd.V_drew)); exact HO405.out⟩, ⟨by (with_reducible repeat (first | apply Kd.V_alloc | apply Kd.V_drewN | apply Kd.V_drew)); exact HO408.out⟩, ⟨by (with_reducible repeat (first | apply Kd.V_alloc | apply Kd.V_drewN | apply Kd.V_drew)); exact HO405.out⟩, ⟨by (with_reducible repeat (first | apply Kd.V_alloc | apply Kd.V_drewN | apply Kd.V_drew)); exact HO408.out⟩, ⟨bo BK389⟩, ⟨bo BK392⟩, ⟨bo BK413⟩, ⟨bo BK414⟩, ⟨bl HB⟩⟩
                                      · replace c68 := Bool.eq_false_iff.mpr c68
                                        subst c68
                                        rw [if_neg (show ¬ (false = true) by decide)] at H
                                        have H' := Aside0.mk H
                                        clear H
                                        go_wp2
                                        go_meet
                                        case rel => exact ⟨_, (x7_31), (by first | (with_reducible rfl) | rfl | (simp; done) | (simp [*]; done)), H', ⟨by have := HJ2.out; have := HK2.out; have := HJ20.out; have := HJ31.out; first | omega | exact Nat.le_refl _⟩, ⟨by (with_reducible repeat (first | apply Kd.V_alloc | apply Kd.V_drewN | apply Kd.V_drew)); exact HO405.out⟩, ⟨by (with_reducible repeat (first | apply Kd.V_alloc | apply Kd.V_drewN | apply Kd.V_drew)); exact HO408.out⟩, ⟨by (with_reducible repeat (first | apply Kd.V_alloc | apply Kd.V_drewN | apply Kd.V_drew)); exact HO405.out⟩, ⟨by (with_reducible repeat (first | apply Kd.V_alloc | apply Kd.V_drewN | apply Kd.V_drew)); exact HO408.out⟩, ⟨bo BK389⟩, ⟨bo BK392⟩, ⟨bo BK413⟩, ⟨bo BK414⟩, ⟨bl HB⟩⟩
                                    case rest =>
                                      clear HC39
                                      try clear p2
                                      try clear p4
                                      try clear q4
                                      try clear hx4
                                      try clear c5
                                      try clear c6
                                      try clear p6
                                      try clear p41
                                      try clear q41
                                      try clear hx41
                                      try clear c57
                                      try clear c58
                                      try clear c59
                                      try clear c61
                                      try clear c62
                                      try clear p64
                                      try clear c66
                                      try clear c68
                                      try clear hcz60_0
                                      try clear hcz60_1
                                      try clear hcz60_2
                                      try clear hcz60_3
                                      try clear hcz63_0
                                      try clear hcz63_1
                                      try clear hcz63_2
                                      try clear hcz63_3
                                      try clear hcz67_0
                                      try clear hcz67_1
                                      try clear hcz67_2
                                      try clear hcz67_3
                                      try clear hfz60_0
                                      try clear hfz60_1
                                      try clear hfz60_2
                                      try clear hfz60_3
                                      try clear hfz63_0
                                      try clear hfz63_1
                                      try clear hfz63_2
                                      try clear hfz63_3
                                      try clear hfz67_0
                                      try clear hfz67_1
                                      try clear hfz67_2
                                      try clear hfz67_3
                                      try clear hx415_0
                                      try clear hx415_1
                                      try clear hx416_0
                                      try clear hx416_1
                                      try clear p415
                                      try clear p416
                                      try clear q415
                                      try clear q416
                                      obtain ⟨kq, x7_38, rfl, HA, HJ38, HO_393002, HO_393003, HO_414002, HO_414003, BK389, BK392, BK413, BK414, HB⟩ := hcut
                                      cases kq with
                                      | zero => exact absurd HA.out (by simp [sandglasslaw11_FixedRate.j4])
                                      | succ kj38 =>
                                        have H := HA.out
                                        clear HA
                                        simp only [sandglasslaw11_FixedRate.j4] at H
                                        have HC69 := Aside0.mk H
                                        clear H
                                        go_upto_region 20 with (fail)
                                        go_cut [125] (fun v125 wc => ∃ (kq : Nat) (x125_68 : Bool), v125 = .bool x125_68 ∧ Aside0 (sandglasslaw11_FixedRate.j5 kq l1 (wrap64 (x6_2 + ((rd_T45 l1 x8_2).f0))) x7_38 x8_2 x125_68 a0_0 a0_1 a0_2 a0_3 t401 t402 t403 t406 = some r) ∧ Aside0 (kq ≤ kj38) ∧ Aside0 (Kd.V (Kd.int .i64) 3 wc w.heap.size (fun k_ => k_ ≠ gb389 ∧ k_ ≠ gb392 ∧ k_ ≠ gb413 ∧ k_ ≠ gb414) (.slice Ao49 t403.length co49) t403) ∧ Aside0 (Kd.V k53 53 wc w.heap.size (fun k_ => k_ ≠ gb389 ∧ k_ ≠ gb392 ∧ k_ ≠ gb413 ∧ k_ ≠ gb414) (.slice Ao51 t406.length co51) t406) ∧ Aside0 (Kd.V (Kd.int .i64) 3 wc w.heap.size (fun k_ => k_ ≠ gb389 ∧ k_ ≠ gb392 ∧ k_ ≠ gb413 ∧ k_ ≠ gb414) (.slice Ao49 t403.length co49) t403) ∧ Aside0 (Kd.V k53 53 wc w.heap.size (fun k_ => k_ ≠ gb389 ∧ k_ ≠ gb392 ∧ k_ ≠ gb413 ∧ k_ ≠ gb414) (.slice Ao51 t406.length co51) t406) ∧ Aside0 (wc.heap[gb389]? = some (.cells #[.int .i64 a0_0, .int .i64 a0_1, .int .i64 a0_2, .int .i64 a0_3] 23 (0, 0))) ∧ Aside0 (wc.heap[gb392]? = some (.cells #[.int .i64 t401, .int .i64 t402, (.slice Ao49 t403.length co49), (.slice Ao51 t406.length co51)] 27 (0, 0))) ∧ Aside0 (wc.heap[gb413]? = some (.cells #[.int .i64 t401, .int .i64 t402, (.slice Ao49 t403.length co49), (.slice Ao51 t406.length co51)] 27 (0, 0))) ∧ Aside0 (wc.heap[gb414]? = some (.cells #[.bool t409, .int .i64 t410, .int .i64 t411, .int .i64 t412] 32 (0, 0))) ∧ Aside0 (Below w.heap.size w wc))
                                        case first =>
                                          have H := HC69.out
                                          clear HC69
                                          by_cases c70 : x7_38 > a0_1
                                          · rw [if_pos c70] at H
                                            have c70b0 : decide (a0_1 < x7_38) = true := decide_eq_true c70
                                            clear c70
                                            (first | rw [c70b0] | (simp only [i64_w, i32_w]; rw [c70b0]) | skip)
                                            have H' := Aside0.mk H
                                            clear H
                                            have hnb71 := NB389_392.out
                                            have hnc71 := NB392_389.out
                                            have hnb72 := NB389_413.out
                                            have hnc72 := NB413_389.out
                                            have hnb73 := NB389_414.out
                                            have hnc73 := NB414_389.out
                                            obtain ⟨hcz74_0, hcz74_1, hcz74_2, hcz74_3⟩ := ce4 BK389
                                            obtain ⟨hfz74_0, hfz74_1, hfz74_2, hfz74_3⟩ := fr4 BK389
                                            go_wp2
                                            go_meet
                                            case rel => exact ⟨_, (true), (by first | (with_reducible rfl) | rfl | (simp; done) | (simp [*]; done)), H', ⟨by have := HJ2.out; have := HK2.out; have := HJ20.out; have := HJ31.out; have := HJ38.out; first | omega | exact Nat.le_refl _⟩, ⟨by (with_reducible repeat (first | apply Kd.V_alloc | apply Kd.V_drewN | apply Kd.V_drew)); exact HO_393002.out⟩, ⟨by (with_reducible repeat (first | apply Kd.V_alloc | apply Kd.V_drewN | apply Kd.V_drew)); exact HO_393003.out⟩, ⟨by (with_reducible repeat (first | apply Kd.V_alloc | apply Kd.V_drewN | apply Kd.V_drew)); exact HO_414002.out⟩, ⟨by (with_reducible repeat (first | apply Kd.V_alloc | apply Kd.V_drewN | apply Kd.V_drew)); exact HO_414003.out⟩, ⟨bo BK389⟩, ⟨bo BK392⟩, ⟨bo BK413⟩, ⟨bo BK414⟩, ⟨bl HB⟩⟩
                                          · rw [if_neg c70] at H
                                            have c70b0 : decide (a0_1 < x7_38) = false := decide_eq_false c70
                                            clear c70
                                            (first | rw [c70b0] | (simp only [i64_w, i32_w]; rw [c70b0]) | skip)
                                            have H' := Aside0.mk H
                                            clear H
                                            have hnb75 := NB389_392.out
                                            have hnc75 := NB392_389.out
                                            have hnb76 := NB389_413.out
                                            have hnc76 := NB413_389.out
                                            have hnb77 := NB389_414.out
                                            have hnc77 := NB414_389.out
                                            obtain ⟨hcz78_0, hcz78_1, hcz78_2, hcz78_3⟩ := ce4 BK389
                                            obtain ⟨hfz78_0, hfz78_1, hfz78_2, hfz78_3⟩ := fr4 BK389
                                            have hnb79 := NB414_392.out
                                            have hnc79 := NB392_414.out
                                            have hnb80 := NB414_413.out
                                            have hnc80 := NB413_414.out
                                            obtain ⟨hcz81_0, hcz81_1, hcz81_2, hcz81_3⟩ := ce4 BK414
                                            obtain ⟨hfz81_0, hfz81_1, hfz81_2, hfz81_3⟩ := fr4 BK414
                                            go_wp2
                                            go_meet
                                            case rel => exact ⟨_, ((t410 != (wrap64 (a0_1 - x7_38)))), (by first | (with_reducible rfl) | rfl | (simp; done) | (simp [*]; done)), H', ⟨by have := HJ2.out; have := HK2.out; have := HJ20.out; have := HJ31.out; have := HJ38.out; first | omega | exact Nat.le_refl _⟩, ⟨by (with_reducible repeat (first | apply Kd.V_alloc | apply Kd.V_drewN | apply Kd.V_drew)); exact HO_393002.out⟩, ⟨by (with_reducible repeat (first | apply Kd.V_alloc | apply Kd.V_drewN | apply Kd.V_drew)); exact HO_393003.out⟩, ⟨by (with_reducible repeat (first | apply Kd.V_alloc | apply Kd.V_drewN | apply Kd.V_drew)); exact HO_414002.out⟩, ⟨by (with_reducible repeat (first | apply Kd.V_alloc | apply Kd.V_drewN | apply Kd.V_drew)); exact HO_414003.out⟩, ⟨bo BK389⟩, ⟨bo BK392⟩, ⟨bo BK413⟩, ⟨bo BK414⟩, ⟨bl HB⟩⟩
                                        case rest =>
                                          clear HC69
                                          try clear p2
                                          try clear p4
                                          try clear q4
                                          try clear hx4
                                          try clear c5
                                          try clear c6
                                          try clear p6
                                          try clear c7
                                          try clear c8
                                          try clear p41
                                          try clear q41
                                          try clear hx41
                                          try clear c57
                                          try clear c58
                                          try clear c59
                                          try clear c61
                                          try clear c62
                                          try clear p64
                                          try clear c66
                                          try clear c68
                                          try clear c70
                                          try clear c70b0
                                          try clear c71
                                          try clear c72
                                          try clear c73
                                          try clear c75
                                          try clear c76
                                          try clear c77
                                          try clear c79
                                          try clear c80
                                          try clear hcz60_0
                                          try clear hcz60_1
                                          try clear hcz60_2
                                          try clear hcz60_3
                                          try clear hcz63_0
                                          try clear hcz63_1
                                          try clear hcz63_2
                                          try clear hcz63_3
                                          try clear hcz67_0
                                          try clear hcz67_1
                                          try clear hcz67_2
                                          try clear hcz67_3
                                          try clear hcz74_0
                                          try clear hcz74_1
                                          try clear hcz74_2
                                          try clear hcz74_3
                                          try clear hcz78_0
                                          try clear hcz78_1
                                          try clear hcz78_2
                                          try clear hcz78_3
                                          try clear hcz81_0
                                          try clear hcz81_1
                                          try clear hcz81_2
                                          try clear hcz81_3
                                          try clear hfz60_0
                                          try clear hfz60_1
                                          try clear hfz60_2
                                          try clear hfz60_3
                                          try clear hfz63_0
                                          try clear hfz63_1
                                          try clear hfz63_2
                                          try clear hfz63_3
                                          try clear hfz67_0
                                          try clear hfz67_1
                                          try clear hfz67_2
                                          try clear hfz67_3
                                          try clear hfz74_0
                                          try clear hfz74_1
                                          try clear hfz74_2
                                          try clear hfz74_3
                                          try clear hfz78_0
                                          try clear hfz78_1
                                          try clear hfz78_2
                                          try clear hfz78_3
                                          try clear hfz81_0
                                          try clear hfz81_1
                                          try clear hfz81_2
                                          try clear hfz81_3
                                          try clear hx415_0
                                          try clear hx415_1
                                          try clear hx416_0
                                          try clear hx416_1
                                          try clear p2
                                          try clear p4
                                          try clear p41
                                          try clear p415
                                          try clear p416
                                          try clear p6
                                          try clear p64
                                          try clear q4
                                          try clear q41
                                          try clear q415
                                          try clear q416
                                          obtain ⟨kq, x125_68, rfl, HA, HJ68, HO_393002, HO_393003, HO_414002, HO_414003, BK389, BK392, BK413, BK414, HB⟩ := hcut
                                          cases kq with
                                          | zero => exact absurd HA.out (by simp [sandglasslaw11_FixedRate.j5])
                                          | succ kj68 =>
                                            have H := HA.out
                                            clear HA
                                            simp only [sandglasslaw11_FixedRate.j5] at H
                                            by_cases c82 : x125_68 = true
                                            · subst c82
                                              rw [if_pos rfl] at H
                                              exact absurd H (by simp)
                                            · replace c82 := Bool.eq_false_iff.mpr c82
                                              subst c82
                                              rw [if_neg (show ¬ (false = true) by decide)] at H
                                              have H' := Aside0.mk H
                                              clear H
                                              go_wp2
                                              go_roundg kj68
                                              case measure => have := HJ2.out; have := HK2.out; have := HJ20.out; have := HJ31.out; have := HJ38.out; have := HJ68.out; omega
                                              case rel => exact ⟨((wrap64 (x6_2 + ((rd_T45 l1 x8_2).f0)))), (x7_38), (wrap64 (x8_2 + 1)), (t401), (t402), (t403), (t406), (.slice Ao49 t403.length co49), (.slice Ao51 t406.length co51), (by first | (with_reducible rfl) | rfl | (simp; done) | (simp [*]; done)), (by first | (with_reducible rfl) | rfl | (simp; done) | (simp [*]; done)), (by first | (with_reducible rfl) | rfl | (simp; done) | (simp [*]; done)), H', ⟨by have := HJ2.out; have := HK2.out; have := HJ20.out; have := HJ31.out; have := HJ38.out; have := HJ68.out; omega⟩, ⟨by (with_reducible repeat (first | apply Kd.V_alloc | apply Kd.V_drewN | apply Kd.V_drew)); exact Kd.V_mono HO_393002.out (fun _ hk => ⟨hk.1, hk.2.1⟩)⟩, ⟨by (with_reducible repeat (first | apply Kd.V_alloc | apply Kd.V_drewN | apply Kd.V_drew)); exact Kd.V_mono HO_393003.out (fun _ hk => ⟨hk.1, hk.2.1⟩)⟩, ⟨bo BK389⟩, ⟨bo BK392⟩, ⟨bl HB⟩⟩
                                · rw [if_neg c36] at H
                                  exact absurd H (by simp)
                              · rw [if_neg c35] at H
                                exact absurd H (by simp)
                      · rw [if_neg c30] at H
                        exact absurd H (by simp)
                    · rw [if_neg c29] at H
                      exact absurd H (by simp)
            · rw [if_neg c20] at H
              have c20b0 : decide (x8_2 < (l1.length : Int)) = false := decide_eq_false c20
              clear c20
              replace H := Option.bind_eq_some_iff.mp H
              obtain ⟨t417, A830, H⟩ := H
              have A83 := Aside0.mk A830
              clear A830
              obtain rfl := Option.some.inj H
              go_wp2_with (first | ((with_reducible refine gate_callee (f := 9) rfl ?_); refine goesL_ (some 126) rfl rfl Try.func9 (by kernel_rfl) rfl #[] rfl (by (try simp only [List.map_toArray, List.map_cons, List.map_nil]); first | done | rfl | (simp only [List.length_drop, List.length_take]; rfl)) ?_; (with_reducible refine (sandglasslaw11_live.calls k2  t417 _ A83.out).mono ?_); rintro e w84 ⟨rfl, hb⟩; refine ⟨_, rfl, ?_⟩; replace HO_393002 := vb HO_393002 hb; replace HO_393003 := vb HO_393003 hb; replace BK389 := Aside0.mk (blk_below (bo BK389) hb); replace BK392 := Aside0.mk (blk_below (bo BK392) hb); replace HB := Aside0.mk (below_step (bl HB) hb); (try clear hb); (try clear hb2); (try clear hk); (try clear hi)))
              go_ret
              exact ⟨by first | (with_reducible rfl) | rfl | (simp [errW_none, errW_some] <;> rfl) | (simp [*, errW_none, errW_some] <;> rfl), bl HB⟩

end Go.Proofs.Ytlnadabohaobnaa.Q
