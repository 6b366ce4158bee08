-- Laid by wip/tools/hprint.py, a program of this repo, over the kit's print; not a text of print.sh.
import Derived.Test.YtalcmlgkdkbbaaaQ0
import Derived.Test.YtalcmlgkdkbbaaaQ16
import Derived.Test.YtalcmlgkdkbbaaaQ19
import Derived.Test.YtalcmlgkdkbbaaaQ20
import Derived.Test.YtalcmlgkdkbbaaaQ24
namespace Go.Proofs.Ytalcmlgkdkbbaaa.Q
open Go.RowKit Go.Proofs.Ytalcmlgkdkbbaaa.Zip Go.Proofs.YtalcmlgkdkbbaaaW.PrintWords Go.Proofs.YtalcmlgkdkbbaaaW.PrintLast Go.Proofs.YtalcmlgkdkbbaaaW.PrintMore
attribute [local go_sem] max2_int min2_int max_two min_two max_three min_three max_four min_four   -- for this text's walks alone
set_option linter.unusedVariables false
set_option linter.unusedSimpArgs false

/-! ### sandglasslaw12_RingRate: function 6 -/
mutual
def sandglasslaw12_RingRate.j0 : Nat → List (S45) → Bool → Int → Int → Int → Int → Option (Bool)
  | 0, _, _, _, _, _, _ => none
  | k + 1, x1, x29, x487000, x487001, x487002, x487003 => if x29 = true then ((sandglasslaw12_live.f k).bind fun t488 => (some t488)) else (if x487003 = 0 then (none) else (sandglasslaw12_RingRate.l0 k x1 0 (wrap64 (Int.tdiv x487002 x487003)) ([] : List Int) ([] : List Int) 0 x487000 x487001 x487002 x487003 0 0 ([] : List Int) ([] : List (S54))))
def sandglasslaw12_RingRate.l0 : Nat → List (S45) → Int → Int → List Int → List Int → Int → Int → Int → Int → Int → Int → Int → List Int → List (S54) → Option (Bool)
  | 0, _, _, _, _, _, _, _, _, _, _, _, _, _, _ => none
  | k + 1, x1, x6, x7, x8, x9, x10, x487000, x487001, x487002, x487003, x490000, x490001, x490002, x490003 => if x10 < (x1.length : Int) then (if 0 ≤ x10 then (if ((rd_T45 x1 x10).f0) < 0 then (sandglasslaw12_RingRate.j2 k x1 x6 x7 x8 x9 x10 true x487000 x487001 x487002 x487003 x490000 x490001 x490002 x490003) else (if ((rd_T45 x1 x10).f0) > 1048576 then (sandglasslaw12_RingRate.j2 k x1 x6 x7 x8 x9 x10 true x487000 x487001 x487002 x487003 x490000 x490001 x490002 x490003) else ((sandglassref09_Weighs.f ((rd_T45 x1 x10).f1)).bind fun t493 => (sandglasslaw12_RingRate.j2 k x1 x6 x7 x8 x9 x10 (!t493) x487000 x487001 x487002 x487003 x490000 x490001 x490002 x490003)))) else (none)) else ((sandglasslaw12_live.f k).bind fun t524 => (some t524))
def sandglasslaw12_RingRate.j2 : Nat → List (S45) → Int → Int → List Int → List Int → Int → Bool → Int → Int → Int → Int → Int → Int → List Int → List (S54) → Option (Bool)
  | 0, _, _, _, _, _, _, _, _, _, _, _, _, _, _, _ => none
  | k + 1, x1, x6, x7, x8, x9, x10, x65, x487000, x487001, x487002, x487003, x490000, x490001, x490002, x490003 => if x65 = true then ((sandglasslaw12_live.f k).bind fun t494 => (some t494)) else (if 0 ≤ x10 then (if x10 < (x1.length : Int) then ((ring_Ask.f k x487000 x487001 x487002 x487003 x490000 x490001 x490002 x490003 (wrap64 (x6 + ((rd_T45 x1 x10).f0))) ((rd_T45 x1 x10).f1)).bind fun bt497 => (if x8.length < 17592186044416 then ((some (x8 ++ [wrap64 (x6 + ((rd_T45 x1 x10).f0))] : List Int)).bind fun y511 => (if bt497.2.2.2.2.1 = true then (sandglasslaw12_RingRate.j3 k x1 (wrap64 (x6 + ((rd_T45 x1 x10).f0))) x7 y511 x9 x10 ((rd_T45 x1 x10).f1) x487000 x487001 x487002 x487003 bt497.1 bt497.2.1 bt497.2.2.1 bt497.2.2.2.1 bt497.2.2.2.2.1 bt497.2.2.2.2.2.1 bt497.2.2.2.2.2.2.1 bt497.2.2.2.2.2.2.2) else (sandglasslaw12_RingRate.j3 k x1 (wrap64 (x6 + ((rd_T45 x1 x10).f0))) x7 y511 x9 x10 0 x487000 x487001 x487002 x487003 bt497.1 bt497.2.1 bt497.2.2.1 bt497.2.2.2.1 bt497.2.2.2.2.1 bt497.2.2.2.2.2.1 bt497.2.2.2.2.2.2.1 bt497.2.2.2.2.2.2.2))) else (none))) else (none)) else (none))
def sandglasslaw12_RingRate.j3 : Nat → List (S45) → Int → Int → List Int → List Int → Int → Int → Int → Int → Int → Int → Int → Int → List Int → List (S54) → Bool → Int → Int → Int → Option (Bool)
  | 0, _, _, _, _, _, _, _, _, _, _, _, _, _, _, _, _, _, _, _ => none
  | k + 1, x1, x6, x7, x8, x9, x10, x13, x487000, x487001, x487002, x487003, x490000, x490001, x490002, x490003, x511000, x511001, x511002, x511003 => if x9.length < 17592186044416 then (sandglasslaw12_RingRate.l1 k x1 x6 x7 x8 (x9 ++ [x13]) x10 0 0 0 x487000 x487001 x487002 x487003 x490000 x490001 x490002 x490003 x511000 x511001 x511002 x511003) else (none)
def sandglasslaw12_RingRate.l1 : Nat → List (S45) → Int → Int → List Int → List Int → Int → Int → Int → Int → Int → Int → Int → Int → Int → Int → List Int → List (S54) → Bool → Int → Int → Int → Option (Bool)
  | 0, _, _, _, _, _, _, _, _, _, _, _, _, _, _, _, _, _, _, _, _, _ => none
  | k + 1, x1, x6, x7, x8, x9, x10, x14, x15, x16, x487000, x487001, x487002, x487003, x490000, x490001, x490002, x490003, x511000, x511001, x511002, x511003 => if x16 ≤ x10 then (if 0 ≤ x16 then (if x16 < (x8.length : Int) then (if (rd x8 x16) > (wrap64 ((wrap64 (x6 - x487002)) + x7)) then (sandglasslaw12_RingRate.j5 k x1 x6 x7 x8 x9 x10 x14 x15 x16 true x487000 x487001 x487002 x487003 x490000 x490001 x490002 x490003 x511000 x511001 x511002 x511003) else (if x487003 = 1 then (if x7 = 0 then (none) else (sandglasslaw12_RingRate.j5 k x1 x6 x7 x8 x9 x10 x14 x15 x16 ((wrap64 (Int.tdiv (rd x8 x16) x7)) == (wrap64 (Int.tdiv x6 x7))) x487000 x487001 x487002 x487003 x490000 x490001 x490002 x490003 x511000 x511001 x511002 x511003)) else (sandglasslaw12_RingRate.j5 k x1 x6 x7 x8 x9 x10 x14 x15 x16 false x487000 x487001 x487002 x487003 x490000 x490001 x490002 x490003 x511000 x511001 x511002 x511003))) else (none)) else (none)) else (if x14 > x487001 then (sandglasslaw12_RingRate.j7 k x1 x6 x7 x8 x9 x10 true x487000 x487001 x487002 x487003 x490000 x490001 x490002 x490003) else (if x511000 = true then (sandglasslaw12_RingRate.j7 k x1 x6 x7 x8 x9 x10 false x487000 x487001 x487002 x487003 x490000 x490001 x490002 x490003) else (if 0 ≤ x10 then (if x10 < (x1.length : Int) then (sandglasslaw12_RingRate.j7 k x1 x6 x7 x8 x9 x10 (decide ((wrap64 (x15 + ((rd_T45 x1 x10).f1))) ≤ x487001)) x487000 x487001 x487002 x487003 x490000 x490001 x490002 x490003) else (none)) else (none))))
def sandglasslaw12_RingRate.j5 : Nat → List (S45) → Int → Int → List Int → List Int → Int → Int → Int → Int → Bool → Int → Int → Int → Int → Int → Int → List Int → List (S54) → Bool → Int → Int → Int → Option (Bool)
  | 0, _, _, _, _, _, _, _, _, _, _, _, _, _, _, _, _, _, _, _, _, _, _ => none
  | k + 1, x1, x6, x7, x8, x9, x10, x14, x15, x16, x134, x487000, x487001, x487002, x487003, x490000, x490001, x490002, x490003, x511000, x511001, x511002, x511003 => if x134 = true then (if 0 ≤ x16 then (if x16 < (x9.length : Int) then (sandglasslaw12_RingRate.j6 k x1 x6 x7 x8 x9 x10 (wrap64 (x14 + (rd x9 x16))) x15 x16 x487000 x487001 x487002 x487003 x490000 x490001 x490002 x490003 x511000 x511001 x511002 x511003) else (none)) else (none)) else (sandglasslaw12_RingRate.j6 k x1 x6 x7 x8 x9 x10 x14 x15 x16 x487000 x487001 x487002 x487003 x490000 x490001 x490002 x490003 x511000 x511001 x511002 x511003)
def sandglasslaw12_RingRate.j6 : Nat → List (S45) → Int → Int → List Int → List Int → Int → Int → Int → Int → Int → Int → Int → Int → Int → Int → List Int → List (S54) → Bool → Int → Int → Int → Option (Bool)
  | 0, _, _, _, _, _, _, _, _, _, _, _, _, _, _, _, _, _, _, _, _, _ => none
  | k + 1, x1, x6, x7, x8, x9, x10, x14, x15, x16, x487000, x487001, x487002, x487003, x490000, x490001, x490002, x490003, x511000, x511001, x511002, x511003 => if 0 ≤ x16 then (if x16 < (x8.length : Int) then (if (rd x8 x16) > (wrap64 (x6 - x487002)) then (if x16 < (x9.length : Int) then (sandglasslaw12_RingRate.l1 k x1 x6 x7 x8 x9 x10 x14 (wrap64 (x15 + (rd x9 x16))) (wrap64 (x16 + 1)) x487000 x487001 x487002 x487003 x490000 x490001 x490002 x490003 x511000 x511001 x511002 x511003) else (none)) else (sandglasslaw12_RingRate.l1 k x1 x6 x7 x8 x9 x10 x14 x15 (wrap64 (x16 + 1)) x487000 x487001 x487002 x487003 x490000 x490001 x490002 x490003 x511000 x511001 x511002 x511003)) else (none)) else (none)
def sandglasslaw12_RingRate.j7 : Nat → List (S45) → Int → Int → List Int → List Int → Int → Bool → Int → Int → Int → Int → Int → Int → List Int → List (S54) → Option (Bool)
  | 0, _, _, _, _, _, _, _, _, _, _, _, _, _, _, _ => none
  | k + 1, x1, x6, x7, x8, x9, x10, x176, x487000, x487001, x487002, x487003, x490000, x490001, x490002, x490003 => if x176 = true then (none) else (sandglasslaw12_RingRate.l0 k x1 x6 x7 x8 x9 (wrap64 (x10 + 1)) x487000 x487001 x487002 x487003 x490000 x490001 x490002 x490003)
end
def sandglasslaw12_RingRate.f (k : Nat) (a0_0 : Int) (a0_1 : Int) (a0_2 : Int) (a0_3 : Int) (l1 : List (S45)) : Option (Bool) := if (l1.length : Int) > 40 then (sandglasslaw12_RingRate.j0 k l1 true a0_0 a0_1 a0_2 a0_3) else ((sandglassref09_Check.f k a0_0 a0_1 a0_2 a0_3).bind fun t487 => (if t487 = 0 then (sandglasslaw12_RingRate.j0 k l1 (a0_0 != 3) a0_0 a0_1 a0_2 a0_3) else (sandglasslaw12_RingRate.j0 k l1 true a0_0 a0_1 a0_2 a0_3)))
theorem sandglasslaw12_RingRate.mono_l : ∀ k, (∀ y0 y1 y2 y3 y4 y5, LeO (sandglasslaw12_RingRate.j0 k y0 y1 y2 y3 y4 y5) (sandglasslaw12_RingRate.j0 (k + 1) y0 y1 y2 y3 y4 y5)) ∧ (∀ y0 y1 y2 y3 y4 y5 y6 y7 y8 y9 y10 y11 y12 y13, LeO (sandglasslaw12_RingRate.l0 k y0 y1 y2 y3 y4 y5 y6 y7 y8 y9 y10 y11 y12 y13) (sandglasslaw12_RingRate.l0 (k + 1) y0 y1 y2 y3 y4 y5 y6 y7 y8 y9 y10 y11 y12 y13)) ∧ (∀ y0 y1 y2 y3 y4 y5 y6 y7 y8 y9 y10 y11 y12 y13 y14, LeO (sandglasslaw12_RingRate.j2 k y0 y1 y2 y3 y4 y5 y6 y7 y8 y9 y10 y11 y12 y13 y14) (sandglasslaw12_RingRate.j2 (k + 1) y0 y1 y2 y3 y4 y5 y6 y7 y8 y9 y10 y11 y12 y13 y14)) ∧ (∀ y0 y1 y2 y3 y4 y5 y6 y7 y8 y9 y10 y11 y12 y13 y14 y15 y16 y17 y18, LeO (sandglasslaw12_RingRate.j3 k y0 y1 y2 y3 y4 y5 y6 y7 y8 y9 y10 y11 y12 y13 y14 y15 y16 y17 y18) (sandglasslaw12_RingRate.j3 (k + 1) y0 y1 y2 y3 y4 y5 y6 y7 y8 y9 y10 y11 y12 y13 y14 y15 y16 y17 y18)) ∧ (∀ y0 y1 y2 y3 y4 y5 y6 y7 y8 y9 y10 y11 y12 y13 y14 y15 y16 y17 y18 y19 y20, LeO (sandglasslaw12_RingRate.l1 k y0 y1 y2 y3 y4 y5 y6 y7 y8 y9 y10 y11 y12 y13 y14 y15 y16 y17 y18 y19 y20) (sandglasslaw12_RingRate.l1 (k + 1) y0 y1 y2 y3 y4 y5 y6 y7 y8 y9 y10 y11 y12 y13 y14 y15 y16 y17 y18 y19 y20)) ∧ (∀ y0 y1 y2 y3 y4 y5 y6 y7 y8 y9 y10 y11 y12 y13 y14 y15 y16 y17 y18 y19 y20 y21, LeO (sandglasslaw12_RingRate.j5 k y0 y1 y2 y3 y4 y5 y6 y7 y8 y9 y10 y11 y12 y13 y14 y15 y16 y17 y18 y19 y20 y21) (sandglasslaw12_RingRate.j5 (k + 1) y0 y1 y2 y3 y4 y5 y6 y7 y8 y9 y10 y11 y12 y13 y14 y15 y16 y17 y18 y19 y20 y21)) ∧ (∀ y0 y1 y2 y3 y4 y5 y6 y7 y8 y9 y10 y11 y12 y13 y14 y15 y16 y17 y18 y19 y20, LeO (sandglasslaw12_RingRate.j6 k y0 y1 y2 y3 y4 y5 y6 y7 y8 y9 y10 y11 y12 y13 y14 y15 y16 y17 y18 y19 y20) (sandglasslaw12_RingRate.j6 (k + 1) y0 y1 y2 y3 y4 y5 y6 y7 y8 y9 y10 y11 y12 y13 y14 y15 y16 y17 y18 y19 y20)) ∧ (∀ y0 y1 y2 y3 y4 y5 y6 y7 y8 y9 y10 y11 y12 y13 y14, LeO (sandglasslaw12_RingRate.j7 k y0 y1 y2 y3 y4 y5 y6 y7 y8 y9 y10 y11 y12 y13 y14) (sandglasslaw12_RingRate.j7 (k + 1) y0 y1 y2 y3 y4 y5 y6 y7 y8 y9 y10 y11 y12 y13 y14))
  | 0 => ⟨fun _ _ _ _ _ _ r h => by simp [sandglasslaw12_RingRate.j0] at h, fun _ _ _ _ _ _ _ _ _ _ _ _ _ _ r h => by simp [sandglasslaw12_RingRate.l0] at h, fun _ _ _ _ _ _ _ _ _ _ _ _ _ _ _ r h => by simp [sandglasslaw12_RingRate.j2] at h, fun _ _ _ _ _ _ _ _ _ _ _ _ _ _ _ _ _ _ _ r h => by simp [sandglasslaw12_RingRate.j3] at h, fun _ _ _ _ _ _ _ _ _ _ _ _ _ _ _ _ _ _ _ _ _ r h => by simp [sandglasslaw12_RingRate.l1] at h, fun _ _ _ _ _ _ _ _ _ _ _ _ _ _ _ _ _ _ _ _ _ _ r h => by simp [sandglasslaw12_RingRate.j5] at h, fun _ _ _ _ _ _ _ _ _ _ _ _ _ _ _ _ _ _ _ _ _ r h => by simp [sandglasslaw12_RingRate.j6] at h, fun _ _ _ _ _ _ _ _ _ _ _ _ _ _ _ r h => by simp [sandglasslaw12_RingRate.j7] at h⟩
  | k + 1 => by
    obtain ⟨ih0, ih1, ih2, ih3, ih4, ih5, ih6, ih7⟩ := sandglasslaw12_RingRate.mono_l k
    refine ⟨?_, ?_, ?_, ?_, ?_, ?_, ?_, ?_⟩
    · intro y0 y1 y2 y3 y4 y5
      unfold sandglasslaw12_RingRate.j0
      repeat' first
      | (with_reducible exact ih0 _ _ _ _ _ _)
      | (with_reducible exact ih1 _ _ _ _ _ _ _ _ _ _ _ _ _ _)
      | (with_reducible exact ih2 _ _ _ _ _ _ _ _ _ _ _ _ _ _ _)
      | (with_reducible exact ih3 _ _ _ _ _ _ _ _ _ _ _ _ _ _ _ _ _ _ _)
      | (with_reducible exact ih4 _ _ _ _ _ _ _ _ _ _ _ _ _ _ _ _ _ _ _ _ _)
      | (with_reducible exact ih5 _ _ _ _ _ _ _ _ _ _ _ _ _ _ _ _ _ _ _ _ _ _)
      | (with_reducible exact ih6 _ _ _ _ _ _ _ _ _ _ _ _ _ _ _ _ _ _ _ _ _)
      | (with_reducible exact ih7 _ _ _ _ _ _ _ _ _ _ _ _ _ _ _)
      | (with_reducible exact ring_Ask.mono _ _ _ _ _ _ _ _ _ _ _)
      | (with_reducible exact sandglasslaw12_live.mono _)
      | (with_reducible exact sandglassref09_Check.mono _ _ _ _ _)
      | (with_reducible exact LeO.refl _)
      | (with_reducible exact LeO.none _)
      | (with_reducible refine LeO.ite ?_ ?_)
      | (with_reducible refine LeO.bind ?_ (fun _ => ?_))
      | exact ih0 _ _ _ _ _ _
      | exact ih1 _ _ _ _ _ _ _ _ _ _ _ _ _ _
      | exact ih2 _ _ _ _ _ _ _ _ _ _ _ _ _ _ _
      | exact ih3 _ _ _ _ _ _ _ _ _ _ _ _ _ _ _ _ _ _ _
      | exact ih4 _ _ _ _ _ _ _ _ _ _ _ _ _ _ _ _ _ _ _ _ _
      | exact ih5 _ _ _ _ _ _ _ _ _ _ _ _ _ _ _ _ _ _ _ _ _ _
      | exact ih6 _ _ _ _ _ _ _ _ _ _ _ _ _ _ _ _ _ _ _ _ _
      | exact ih7 _ _ _ _ _ _ _ _ _ _ _ _ _ _ _
      | exact ring_Ask.mono _ _ _ _ _ _ _ _ _ _ _
      | exact sandglasslaw12_live.mono _
      | exact sandglassref09_Check.mono _ _ _ _ _
      | exact LeO.none _
      | refine LeO.ite ?_ ?_
      | refine LeO.bind ?_ (fun _ => ?_)
    · intro y0 y1 y2 y3 y4 y5 y6 y7 y8 y9 y10 y11 y12 y13
      unfold sandglasslaw12_RingRate.l0
      repeat' first
      | (with_reducible exact ih0 _ _ _ _ _ _)
      | (with_reducible exact ih1 _ _ _ _ _ _ _ _ _ _ _ _ _ _)
      | (with_reducible exact ih2 _ _ _ _ _ _ _ _ _ _ _ _ _ _ _)
      | (with_reducible exact ih3 _ _ _ _ _ _ _ _ _ _ _ _ _ _ _ _ _ _ _)
      | (with_reducible exact ih4 _ _ _ _ _ _ _ _ _ _ _ _ _ _ _ _ _ _ _ _ _)
      | (with_reducible exact ih5 _ _ _ _ _ _ _ _ _ _ _ _ _ _ _ _ _ _ _ _ _ _)
      | (with_reducible exact ih6 _ _ _ _ _ _ _ _ _ _ _ _ _ _ _ _ _ _ _ _ _)
      | (with_reducible exact ih7 _ _ _ _ _ _ _ _ _ _ _ _ _ _ _)
      | (with_reducible exact ring_Ask.mono _ _ _ _ _ _ _ _ _ _ _)
      | (with_reducible exact sandglasslaw12_live.mono _)
      | (with_reducible exact sandglassref09_Check.mono _ _ _ _ _)
      | (with_reducible exact LeO.refl _)
      | (with_reducible exact LeO.none _)
      | (with_reducible refine LeO.ite ?_ ?_)
      | (with_reducible refine LeO.bind ?_ (fun _ => ?_))
      | exact ih0 _ _ _ _ _ _
      | exact ih1 _ _ _ _ _ _ _ _ _ _ _ _ _ _
      | exact ih2 _ _ _ _ _ _ _ _ _ _ _ _ _ _ _
      | exact ih3 _ _ _ _ _ _ _ _ _ _ _ _ _ _ _ _ _ _ _
      | exact ih4 _ _ _ _ _ _ _ _ _ _ _ _ _ _ _ _ _ _ _ _ _
      | exact ih5 _ _ _ _ _ _ _ _ _ _ _ _ _ _ _ _ _ _ _ _ _ _
      | exact ih6 _ _ _ _ _ _ _ _ _ _ _ _ _ _ _ _ _ _ _ _ _
      | exact ih7 _ _ _ _ _ _ _ _ _ _ _ _ _ _ _
      | exact ring_Ask.mono _ _ _ _ _ _ _ _ _ _ _
      | exact sandglasslaw12_live.mono _
      | exact sandglassref09_Check.mono _ _ _ _ _
      | exact LeO.none _
      | refine LeO.ite ?_ ?_
      | refine LeO.bind ?_ (fun _ => ?_)
    · intro y0 y1 y2 y3 y4 y5 y6 y7 y8 y9 y10 y11 y12 y13 y14
      unfold sandglasslaw12_RingRate.j2
      repeat' first
      | (with_reducible exact ih0 _ _ _ _ _ _)
      | (with_reducible exact ih1 _ _ _ _ _ _ _ _ _ _ _ _ _ _)
      | (with_reducible exact ih2 _ _ _ _ _ _ _ _ _ _ _ _ _ _ _)
      | (with_reducible exact ih3 _ _ _ _ _ _ _ _ _ _ _ _ _ _ _ _ _ _ _)
      | (with_reducible exact ih4 _ _ _ _ _ _ _ _ _ _ _ _ _ _ _ _ _ _ _ _ _)
      | (with_reducible exact ih5 _ _ _ _ _ _ _ _ _ _ _ _ _ _ _ _ _ _ _ _ _ _)
      | (with_reducible exact ih6 _ _ _ _ _ _ _ _ _ _ _ _ _ _ _ _ _ _ _ _ _)
      | (with_reducible exact ih7 _ _ _ _ _ _ _ _ _ _ _ _ _ _ _)
      | (with_reducible exact ring_Ask.mono _ _ _ _ _ _ _ _ _ _ _)
      | (with_reducible exact sandglasslaw12_live.mono _)
      | (with_reducible exact sandglassref09_Check.mono _ _ _ _ _)
      | (with_reducible exact LeO.refl _)
      | (with_reducible exact LeO.none _)
      | (with_reducible refine LeO.ite ?_ ?_)
      | (with_reducible refine LeO.bind ?_ (fun _ => ?_))
      | exact ih0 _ _ _ _ _ _
      | exact ih1 _ _ _ _ _ _ _ _ _ _ _ _ _ _
      | exact ih2 _ _ _ _ _ _ _ _ _ _ _ _ _ _ _
      | exact ih3 _ _ _ _ _ _ _ _ _ _ _ _ _ _ _ _ _ _ _
      | exact ih4 _ _ _ _ _ _ _ _ _ _ _ _ _ _ _ _ _ _ _ _ _
      | exact ih5 _ _ _ _ _ _ _ _ _ _ _ _ _ _ _ _ _ _ _ _ _ _
      | exact ih6 _ _ _ _ _ _ _ _ _ _ _ _ _ _ _ _ _ _ _ _ _
      | exact ih7 _ _ _ _ _ _ _ _ _ _ _ _ _ _ _
      | exact ring_Ask.mono _ _ _ _ _ _ _ _ _ _ _
      | exact sandglasslaw12_live.mono _
      | exact sandglassref09_Check.mono _ _ _ _ _
      | exact LeO.none _
      | refine LeO.ite ?_ ?_
      | refine LeO.bind ?_ (fun _ => ?_)
    · intro y0 y1 y2 y3 y4 y5 y6 y7 y8 y9 y10 y11 y12 y13 y14 y15 y16 y17 y18
      unfold sandglasslaw12_RingRate.j3
      repeat' first
      | (with_reducible exact ih0 _ _ _ _ _ _)
      | (with_reducible exact ih1 _ _ _ _ _ _ _ _ _ _ _ _ _ _)
      | (with_reducible exact ih2 _ _ _ _ _ _ _ _ _ _ _ _ _ _ _)
      | (with_reducible exact ih3 _ _ _ _ _ _ _ _ _ _ _ _ _ _ _ _ _ _ _)
      | (with_reducible exact ih4 _ _ _ _ _ _ _ _ _ _ _ _ _ _ _ _ _ _ _ _ _)
      | (with_reducible exact ih5 _ _ _ _ _ _ _ _ _ _ _ _ _ _ _ _ _ _ _ _ _ _)
      | (with_reducible exact ih6 _ _ _ _ _ _ _ _ _ _ _ _ _ _ _ _ _ _ _ _ _)
      | (with_reducible exact ih7 _ _ _ _ _ _ _ _ _ _ _ _ _ _ _)
      | (with_reducible exact ring_Ask.mono _ _ _ _ _ _ _ _ _ _ _)
      | (with_reducible exact sandglasslaw12_live.mono _)
      | (with_reducible exact sandglassref09_Check.mono _ _ _ _ _)
      | (with_reducible exact LeO.refl _)
      | (with_reducible exact LeO.none _)
      | (with_reducible refine LeO.ite ?_ ?_)
      | (with_reducible refine LeO.bind ?_ (fun _ => ?_))
      | exact ih0 _ _ _ _ _ _
      | exact ih1 _ _ _ _ _ _ _ _ _ _ _ _ _ _
      | exact ih2 _ _ _ _ _ _ _ _ _ _ _ _ _ _ _
      | exact ih3 _ _ _ _ _ _ _ _ _ _ _ _ _ _ _ _ _ _ _
      | exact ih4 _ _ _ _ _ _ _ _ _ _ _ _ _ _ _ _ _ _ _ _ _
      | exact ih5 _ _ _ _ _ _ _ _ _ _ _ _ _ _ _ _ _ _ _ _ _ _
      | exact ih6 _ _ _ _ _ _ _ _ _ _ _ _ _ _ _ _ _ _ _ _ _
      | exact ih7 _ _ _ _ _ _ _ _ _ _ _ _ _ _ _
      | exact ring_Ask.mono _ _ _ _ _ _ _ _ _ _ _
      | exact sandglasslaw12_live.mono _
      | exact sandglassref09_Check.mono _ _ _ _ _
      | exact LeO.none _
      | refine LeO.ite ?_ ?_
      | refine LeO.bind ?_ (fun _ => ?_)
    · intro y0 y1 y2 y3 y4 y5 y6 y7 y8 y9 y10 y11 y12 y13 y14 y15 y16 y17 y18 y19 y20
      unfold sandglasslaw12_RingRate.l1
      repeat' first
      | (with_reducible exact ih0 _ _ _ _ _ _)
      | (with_reducible exact ih1 _ _ _ _ _ _ _ _ _ _ _ _ _ _)
      | (with_reducible exact ih2 _ _ _ _ _ _ _ _ _ _ _ _ _ _ _)
      | (with_reducible exact ih3 _ _ _ _ _ _ _ _ _ _ _ _ _ _ _ _ _ _ _)
      | (with_reducible exact ih4 _ _ _ _ _ _ _ _ _ _ _ _ _ _ _ _ _ _ _ _ _)
      | (with_reducible exact ih5 _ _ _ _ _ _ _ _ _ _ _ _ _ _ _ _ _ _ _ _ _ _)
      | (with_reducible exact ih6 _ _ _ _ _ _ _ _ _ _ _ _ _ _ _ _ _ _ _ _ _)
      | (with_reducible exact ih7 _ _ _ _ _ _ _ _ _ _ _ _ _ _ _)
      | (with_reducible exact ring_Ask.mono _ _ _ _ _ _ _ _ _ _ _)
      | (with_reducible exact sandglasslaw12_live.mono _)
      | (with_reducible exact sandglassref09_Check.mono _ _ _ _ _)
      | (with_reducible exact LeO.refl _)
      | (with_reducible exact LeO.none _)
      | (with_reducible refine LeO.ite ?_ ?_)
      | (with_reducible refine LeO.bind ?_ (fun _ => ?_))
      | exact ih0 _ _ _ _ _ _
      | exact ih1 _ _ _ _ _ _ _ _ _ _ _ _ _ _
      | exact ih2 _ _ _ _ _ _ _ _ _ _ _ _ _ _ _
      | exact ih3 _ _ _ _ _ _ _ _ _ _ _ _ _ _ _ _ _ _ _
      | exact ih4 _ _ _ _ _ _ _ _ _ _ _ _ _ _ _ _ _ _ _ _ _
      | exact ih5 _ _ _ _ _ _ _ _ _ _ _ _ _ _ _ _ _ _ _ _ _ _
      | exact ih6 _ _ _ _ _ _ _ _ _ _ _ _ _ _ _ _ _ _ _ _ _
      | exact ih7 _ _ _ _ _ _ _ _ _ _ _ _ _ _ _
      | exact ring_Ask.mono _ _ _ _ _ _ _ _ _ _ _
      | exact sandglasslaw12_live.mono _
      | exact sandglassref09_Check.mono _ _ _ _ _
      | exact LeO.none _
      | refine LeO.ite ?_ ?_
      | refine LeO.bind ?_ (fun _ => ?_)
    · intro y0 y1 y2 y3 y4 y5 y6 y7 y8 y9 y10 y11 y12 y13 y14 y15 y16 y17 y18 y19 y20 y21
      unfold sandglasslaw12_RingRate.j5
      repeat' first
      | (with_reducible exact ih0 _ _ _ _ _ _)
      | (with_reducible exact ih1 _ _ _ _ _ _ _ _ _ _ _ _ _ _)
      | (with_reducible exact ih2 _ _ _ _ _ _ _ _ _ _ _ _ _ _ _)
      | (with_reducible exact ih3 _ _ _ _ _ _ _ _ _ _ _ _ _ _ _ _ _ _ _)
      | (with_reducible exact ih4 _ _ _ _ _ _ _ _ _ _ _ _ _ _ _ _ _ _ _ _ _)
      | (with_reducible exact ih5 _ _ _ _ _ _ _ _ _ _ _ _ _ _ _ _ _ _ _ _ _ _)
      | (with_reducible exact ih6 _ _ _ _ _ _ _ _ _ _ _ _ _ _ _ _ _ _ _ _ _)
      | (with_reducible exact ih7 _ _ _ _ _ _ _ _ _ _ _ _ _ _ _)
      | (with_reducible exact ring_Ask.mono _ _ _ _ _ _ _ _ _ _ _)
      | (with_reducible exact sandglasslaw12_live.mono _)
      | (with_reducible exact sandglassref09_Check.mono _ _ _ _ _)
      | (with_reducible exact LeO.refl _)
      | (with_reducible exact LeO.none _)
      | (with_reducible refine LeO.ite ?_ ?_)
      | (with_reducible refine LeO.bind ?_ (fun _ => ?_))
      | exact ih0 _ _ _ _ _ _
      | exact ih1 _ _ _ _ _ _ _ _ _ _ _ _ _ _
      | exact ih2 _ _ _ _ _ _ _ _ _ _ _ _ _ _ _
      | exact ih3 _ _ _ _ _ _ _ _ _ _ _ _ _ _ _ _ _ _ _
      | exact ih4 _ _ _ _ _ _ _ _ _ _ _ _ _ _ _ _ _ _ _ _ _
      | exact ih5 _ _ _ _ _ _ _ _ _ _ _ _ _ _ _ _ _ _ _ _ _ _
      | exact ih6 _ _ _ _ _ _ _ _ _ _ _ _ _ _ _ _ _ _ _ _ _
      | exact ih7 _ _ _ _ _ _ _ _ _ _ _ _ _ _ _
      | exact ring_Ask.mono _ _ _ _ _ _ _ _ _ _ _
      | exact sandglasslaw12_live.mono _
      | exact sandglassref09_Check.mono _ _ _ _ _
      | exact LeO.none _
      | refine LeO.ite ?_ ?_
      | refine LeO.bind ?_ (fun _ => ?_)
    · intro y0 y1 y2 y3 y4 y5 y6 y7 y8 y9 y10 y11 y12 y13 y14 y15 y16 y17 y18 y19 y20
      unfold sandglasslaw12_RingRate.j6
      repeat' first
      | (with_reducible exact ih0 _ _ _ _ _ _)
      | (with_reducible exact ih1 _ _ _ _ _ _ _ _ _ _ _ _ _ _)
      | (with_reducible exact ih2 _ _ _ _ _ _ _ _ _ _ _ _ _ _ _)
      | (with_reducible exact ih3 _ _ _ _ _ _ _ _ _ _ _ _ _ _ _ _ _ _ _)
      | (with_reducible exact ih4 _ _ _ _ _ _ _ _ _ _ _ _ _ _ _ _ _ _ _ _ _)
      | (with_reducible exact ih5 _ _ _ _ _ _ _ _ _ _ _ _ _ _ _ _ _ _ _ _ _ _)
      | (with_reducible exact ih6 _ _ _ _ _ _ _ _ _ _ _ _ _ _ _ _ _ _ _ _ _)
      | (with_reducible exact ih7 _ _ _ _ _ _ _ _ _ _ _ _ _ _ _)
      | (with_reducible exact ring_Ask.mono _ _ _ _ _ _ _ _ _ _ _)
      | (with_reducible exact sandglasslaw12_live.mono _)
      | (with_reducible exact sandglassref09_Check.mono _ _ _ _ _)
      | (with_reducible exact LeO.refl _)
      | (with_reducible exact LeO.none _)
      | (with_reducible refine LeO.ite ?_ ?_)
      | (with_reducible refine LeO.bind ?_ (fun _ => ?_))
      | exact ih0 _ _ _ _ _ _
      | exact ih1 _ _ _ _ _ _ _ _ _ _ _ _ _ _
      | exact ih2 _ _ _ _ _ _ _ _ _ _ _ _ _ _ _
      | exact ih3 _ _ _ _ _ _ _ _ _ _ _ _ _ _ _ _ _ _ _
      | exact ih4 _ _ _ _ _ _ _ _ _ _ _ _ _ _ _ _ _ _ _ _ _
      | exact ih5 _ _ _ _ _ _ _ _ _ _ _ _ _ _ _ _ _ _ _ _ _ _
      | exact ih6 _ _ _ _ _ _ _ _ _ _ _ _ _ _ _ _ _ _ _ _ _
      | exact ih7 _ _ _ _ _ _ _ _ _ _ _ _ _ _ _
      | exact ring_Ask.mono _ _ _ _ _ _ _ _ _ _ _
      | exact sandglasslaw12_live.mono _
      | exact sandglassref09_Check.mono _ _ _ _ _
      | exact LeO.none _
      | refine LeO.ite ?_ ?_
      | refine LeO.bind ?_ (fun _ => ?_)
    · intro y0 y1 y2 y3 y4 y5 y6 y7 y8 y9 y10 y11 y12 y13 y14
      unfold sandglasslaw12_RingRate.j7
      repeat' first
      | (with_reducible exact ih0 _ _ _ _ _ _)
      | (with_reducible exact ih1 _ _ _ _ _ _ _ _ _ _ _ _ _ _)
      | (with_reducible exact ih2 _ _ _ _ _ _ _ _ _ _ _ _ _ _ _)
      | (with_reducible exact ih3 _ _ _ _ _ _ _ _ _ _ _ _ _ _ _ _ _ _ _)
      | (with_reducible exact ih4 _ _ _ _ _ _ _ _ _ _ _ _ _ _ _ _ _ _ _ _ _)
      | (with_reducible exact ih5 _ _ _ _ _ _ _ _ _ _ _ _ _ _ _ _ _ _ _ _ _ _)
      | (with_reducible exact ih6 _ _ _ _ _ _ _ _ _ _ _ _ _ _ _ _ _ _ _ _ _)
      | (with_reducible exact ih7 _ _ _ _ _ _ _ _ _ _ _ _ _ _ _)
      | (with_reducible exact ring_Ask.mono _ _ _ _ _ _ _ _ _ _ _)
      | (with_reducible exact sandglasslaw12_live.mono _)
      | (with_reducible exact sandglassref09_Check.mono _ _ _ _ _)
      | (with_reducible exact LeO.refl _)
      | (with_reducible exact LeO.none _)
      | (with_reducible refine LeO.ite ?_ ?_)
      | (with_reducible refine LeO.bind ?_ (fun _ => ?_))
      | exact ih0 _ _ _ _ _ _
      | exact ih1 _ _ _ _ _ _ _ _ _ _ _ _ _ _
      | exact ih2 _ _ _ _ _ _ _ _ _ _ _ _ _ _ _
      | exact ih3 _ _ _ _ _ _ _ _ _ _ _ _ _ _ _ _ _ _ _
      | exact ih4 _ _ _ _ _ _ _ _ _ _ _ _ _ _ _ _ _ _ _ _ _
      | exact ih5 _ _ _ _ _ _ _ _ _ _ _ _ _ _ _ _ _ _ _ _ _ _
      | exact ih6 _ _ _ _ _ _ _ _ _ _ _ _ _ _ _ _ _ _ _ _ _
      | exact ih7 _ _ _ _ _ _ _ _ _ _ _ _ _ _ _
      | exact ring_Ask.mono _ _ _ _ _ _ _ _ _ _ _
      | exact sandglasslaw12_live.mono _
      | exact sandglassref09_Check.mono _ _ _ _ _
      | exact LeO.none _
      | refine LeO.ite ?_ ?_
      | refine LeO.bind ?_ (fun _ => ?_)
theorem sandglasslaw12_RingRate.mono : ∀ a0 a1 a2 a3 a4 k, LeO (sandglasslaw12_RingRate.f k a0 a1 a2 a3 a4) (sandglasslaw12_RingRate.f (k + 1) a0 a1 a2 a3 a4) := by
  intro a0 a1 a2 a3 a4 k
  obtain ⟨ih0, ih1, ih2, ih3, ih4, ih5, ih6, ih7⟩ := sandglasslaw12_RingRate.mono_l k
  unfold sandglasslaw12_RingRate.f
  repeat' first
      | (with_reducible exact ih0 _ _ _ _ _ _)
      | (with_reducible exact ih1 _ _ _ _ _ _ _ _ _ _ _ _ _ _)
      | (with_reducible exact ih2 _ _ _ _ _ _ _ _ _ _ _ _ _ _ _)
      | (with_reducible exact ih3 _ _ _ _ _ _ _ _ _ _ _ _ _ _ _ _ _ _ _)
      | (with_reducible exact ih4 _ _ _ _ _ _ _ _ _ _ _ _ _ _ _ _ _ _ _ _ _)
      | (with_reducible exact ih5 _ _ _ _ _ _ _ _ _ _ _ _ _ _ _ _ _ _ _ _ _ _)
      | (with_reducible exact ih6 _ _ _ _ _ _ _ _ _ _ _ _ _ _ _ _ _ _ _ _ _)
      | (with_reducible exact ih7 _ _ _ _ _ _ _ _ _ _ _ _ _ _ _)
      | (with_reducible exact ring_Ask.mono _ _ _ _ _ _ _ _ _ _ _)
      | (with_reducible exact sandglasslaw12_live.mono _)
      | (with_reducible exact sandglassref09_Check.mono _ _ _ _ _)
      | (with_reducible exact LeO.refl _)
      | (with_reducible exact LeO.none _)
      | (with_reducible refine LeO.ite ?_ ?_)
      | (with_reducible refine LeO.bind ?_ (fun _ => ?_))
      | exact ih0 _ _ _ _ _ _
      | exact ih1 _ _ _ _ _ _ _ _ _ _ _ _ _ _
      | exact ih2 _ _ _ _ _ _ _ _ _ _ _ _ _ _ _
      | exact ih3 _ _ _ _ _ _ _ _ _ _ _ _ _ _ _ _ _ _ _
      | exact ih4 _ _ _ _ _ _ _ _ _ _ _ _ _ _ _ _ _ _ _ _ _
      | exact ih5 _ _ _ _ _ _ _ _ _ _ _ _ _ _ _ _ _ _ _ _ _ _
      | exact ih6 _ _ _ _ _ _ _ _ _ _ _ _ _ _ _ _ _ _ _ _ _
      | exact ih7 _ _ _ _ _ _ _ _ _ _ _ _ _ _ _
      | exact ring_Ask.mono _ _ _ _ _ _ _ _ _ _ _
      | exact sandglasslaw12_live.mono _
      | exact sandglassref09_Check.mono _ _ _ _ _
      | exact LeO.none _
      | refine LeO.ite ?_ ?_
      | refine LeO.bind ?_ (fun _ => ?_)
def sandglasslaw12_RingRate.T14 : Bool × List (List Nat × List Nat) := (true, [([], []), ([], []), ([], []), ([], []), ([], []), ([3, 4], [3, 4]), ([5], [5]), ([6], [6]), ([0, 1, 2, 7], [0, 1, 2, 7]), ([8], [8]), ([9], [9]), ([9], [9]), ([], []), ([], []), ([12, 10, 8, 0, 1, 2, 3, 4, 5, 6, 7, 8, 9, 10, 12, 13], [10, 12]), ([13, 11, 14, 0, 1, 2, 3, 4, 5, 6, 7, 8, 9, 10, 11, 12, 13, 14], [11, 13])])
def sandglasslaw12_RingRate.B14 : List Nat := [0, 0, 0, 0, 0, 24, 56, 120, 255, 511, 1023, 1023, 0, 0, 14335, 32767]
theorem sandglasslaw12_RingRate.tab14 : rtab .any (opsOf Try.f6 14) = sandglasslaw12_RingRate.T14 := by kernel_rfl
theorem sandglasslaw12_RingRate.bits14 : waitsOk sandglasslaw12_RingRate.T14.2 sandglasslaw12_RingRate.B14 = true := by kernel_rfl
def sandglasslaw12_RingRate.T26 : Bool × List (List Nat × List Nat) := (true, [([], []), ([], []), ([0, 1], [0, 1]), ([2], [2]), ([], []), ([], []), ([5], [5]), ([4, 6], [4, 6]), ([], []), ([7, 8], [7, 8]), ([3, 9], [3, 9]), ([10], [10]), ([11], [11]), ([12, 11], [11, 12]), ([13, 11], [11, 13]), ([14, 11, 11], [11, 14]), ([15], [15]), ([15], [15]), ([16, 17, 15], [15, 16, 17]), ([18, 15], [15, 18]), ([15], [15]), ([19, 20, 15], [15, 19, 20]), ([15], [15]), ([15], [15]), ([22, 23, 15], [15, 22, 23]), ([21, 24, 15], [15, 21, 24]), ([15, 25, 11], [11, 15, 25]), ([11, 26], [11, 26])])
def sandglasslaw12_RingRate.B26 : List Nat := [0, 0, 3, 7, 0, 0, 32, 112, 0, 496, 1023, 2047, 4095, 8191, 16383, 32767, 65535, 65535, 262143, 524287, 65535, 2097151, 65535, 65535, 12648447, 33554431, 67108863, 134217727]
theorem sandglasslaw12_RingRate.tab26 : rtab .any (opsOf Try.f6 26) = sandglasslaw12_RingRate.T26 := by kernel_rfl
theorem sandglasslaw12_RingRate.bits26 : waitsOk sandglasslaw12_RingRate.T26.2 sandglasslaw12_RingRate.B26 = true := by kernel_rfl
def sandglasslaw12_RingRate.T28 : Bool × List (List Nat × List Nat) := (true, [([], []), ([], []), ([0, 1], [0, 1]), ([2], [2]), ([], []), ([], []), ([5], [5]), ([4, 6], [4, 6]), ([3, 7], [3, 7])])
def sandglasslaw12_RingRate.B28 : List Nat := [0, 0, 3, 7, 0, 0, 32, 112, 255]
theorem sandglasslaw12_RingRate.tab28 : rtab .any (opsOf Try.f6 28) = sandglasslaw12_RingRate.T28 := by kernel_rfl
theorem sandglasslaw12_RingRate.bits28 : waitsOk sandglasslaw12_RingRate.T28.2 sandglasslaw12_RingRate.B28 = true := by kernel_rfl
def sandglasslaw12_RingRate.T30 : Bool × List (List Nat × List Nat) := (true, [([], []), ([], []), ([1], [1]), ([0, 2], [0, 2]), ([3], [3]), ([4], [4]), ([5, 4], [4, 5]), ([6, 4], [4, 6]), ([7, 4, 4], [4, 7]), ([8], [8]), ([8], [8]), ([8], [8]), ([10, 11, 8], [8, 10, 11]), ([12, 8], [8, 12]), ([13, 8], [8, 13]), ([9, 14, 8], [8, 9, 14]), ([8], [8]), ([16, 8], [8, 16]), ([15, 17, 8], [8, 15, 17]), ([8, 18, 4], [4, 8, 18]), ([4, 19], [4, 19])])
def sandglasslaw12_RingRate.B30 : List Nat := [0, 0, 2, 7, 15, 31, 63, 127, 255, 511, 511, 511, 3583, 7679, 15871, 32767, 511, 66047, 262143, 524287, 1048575]
theorem sandglasslaw12_RingRate.tab30 : rtab .any (opsOf Try.f6 30) = sandglasslaw12_RingRate.T30 := by kernel_rfl
theorem sandglasslaw12_RingRate.bits30 : waitsOk sandglasslaw12_RingRate.T30.2 sandglasslaw12_RingRate.B30 = true := by kernel_rfl
set_option maxHeartbeats 8000000 in
set_option maxRecDepth 100000 in
theorem sandglasslaw12_RingRate.calls (k : Nat) (a0_0 : Int) (a0_1 : Int) (a0_2 : Int) (a0_3 : Int) (A1 : Option Addr) (c1 : Nat) (l1 : List (S45)) (r : Bool) (w : World) (hr1 : Kd.C k45 w A1 l1.length l1) (hc1 : l1.length ≤ c1) (h : sandglasslaw12_RingRate.f k a0_0 a0_1 a0_2 a0_3 l1 = some r) :
  Calls Try.prog 6 #[.agg #[.int .i64 a0_0, .int .i64 a0_1, .int .i64 a0_2, .int .i64 a0_3], .slice A1 l1.length c1] w fun e w' => e = .returned (.bool r) ∧ Below w.heap.size w w' := by
 have hu23 := Try.underlying23
 have hu27 := Try.underlying27
 have hu32 := Try.underlying32
 have HR1 := Aside0.mk hr1
 have HC1 := Aside0.mk hc1
 clear hr1 hc1
 have HB := Aside0.mk (Below.refl w.heap.size w)
 have H : (if (l1.length : Int) > 40 then (sandglasslaw12_RingRate.j0 k l1 true a0_0 a0_1 a0_2 a0_3) else ((sandglassref09_Check.f k a0_0 a0_1 a0_2 a0_3).bind fun t487 => (if t487 = 0 then (sandglasslaw12_RingRate.j0 k l1 (a0_0 != 3) a0_0 a0_1 a0_2 a0_3) else (sandglasslaw12_RingRate.j0 k l1 true a0_0 a0_1 a0_2 a0_3)))) = some r := h
 clear h
 have HC3 := Aside0.mk H
 clear H
 go_enter Try.func6, Try.ntmps6
 go_upto_region 1 with (first | ((with_reducible refine gate_dst (N := 2) rfl ?_); refine box_event ?hg (N := 2) ?hd (cs := #[.int .i64 a0_0, .int .i64 a0_1, .int .i64 a0_2, .int .i64 a0_3]) (t := 23) ?hr ?_; (case hd => rfl); (case hg => rfl); (case hr => first | (go_simp; done) | (go_simp; rfl)); intro gb486 hg w4 hbox hb; have BK486 := Aside0.mk (hbox); have GW486 := Aside0.mk ((by rw [hg]; exact (below_size (bl HB)) : w.heap.size ≤ gb486)); have GE486 := Aside0.mk ((by rw [hg]; exact (below_size (bl HB)) : w.heap.size ≤ gb486)); replace HB := Aside0.mk (below_step (bl HB) hb); clear hb hbox hg))
 (try simp only [Act.put, List.setIfInBounds_toArray, List.set_cons_zero, List.set_cons_succ])
 go_cut [29] (fun v29 wc => ∃ (kq : Nat) (x29_2 : Bool), v29 = .bool x29_2 ∧ Aside0 (sandglasslaw12_RingRate.j0 kq l1 x29_2 a0_0 a0_1 a0_2 a0_3 = some r) ∧ Aside0 (kq ≤ k) ∧ Aside0 (wc.heap[gb486]? = some (.cells #[.int .i64 a0_0, .int .i64 a0_1, .int .i64 a0_2, .int .i64 a0_3] 23 (0, 0))) ∧ Aside0 (Below w.heap.size w wc))
 case first =>
  have H := HC3.out
  clear HC3
  by_cases c5 : (l1.length : Int) > 40
  ·rw [if_pos c5] at H
   have c5b0 : decide (40 < (l1.length : Int)) = true := decide_eq_true c5
   have c5b1 : decide (40 < l1.length) = true := decide_eq_true (by omega)
   clear c5
   (first | rw [c5b0] | (simp only [i64_w, i32_w]; rw [c5b0]) | skip)
   have H' := Aside0.mk H
   clear H
   go_wp2
   go_meet
   case rel => exact ⟨_, (true), (by first | (with_reducible rfl) | rfl | (simp; done) | (simp [*]; done)), H', ⟨by first | omega | exact Nat.le_refl _⟩, ⟨bo BK486⟩, ⟨bl HB⟩⟩
  ·rw [if_neg c5] at H
   have c5b0 : decide (40 < (l1.length : Int)) = false := decide_eq_false c5
   have c5b1 : decide (40 < l1.length) = false := decide_eq_false (by omega)
   clear c5
   (first | rw [c5b0] | (simp only [i64_w, i32_w]; rw [c5b0]) | skip)
   replace H := Option.bind_eq_some_iff.mp H
   obtain ⟨t487, A60, H⟩ := H
   have A6 := Aside0.mk A60
   clear A60
   by_cases c7 : t487 = 0
   ·rw [if_pos c7] at H
    have c7b0 : (t487 == 0) = true := beq_iff_eq.mpr c7
    have c7b1 : (t487 != 0) = false := bne_eq_false_iff_eq.mpr c7
    clear c7
    have H' := Aside0.mk H
    clear H
    obtain ⟨hcz8_0, hcz8_1, hcz8_2, hcz8_3⟩ := ce4 BK486
    obtain ⟨hfz8_0, hfz8_1, hfz8_2, hfz8_3⟩ := fr4 BK486
    go_wp2_with (first | (go_at_call 20; (with_reducible refine (sandglassref09_Check.calls k a0_0 a0_1 a0_2 a0_3 t487 _ A6.out).mono ?_); rintro e w9 ⟨rfl, hb⟩; replace BK486 := Aside0.mk (blk_below (bo BK486) hb); replace HB := Aside0.mk (below_step (bl HB) hb); (try clear hb); (try clear hb2); (try clear hk); (try clear hi); obtain ⟨hcz10_0, hcz10_1, hcz10_2, hcz10_3⟩ := ce4 BK486; obtain ⟨hfz10_0, hfz10_1, hfz10_2, hfz10_3⟩ := fr4 BK486))
    go_meet
    case rel => exact ⟨_, ((a0_0 != 3)), (by first | (with_reducible rfl) | rfl | (simp; done) | (simp [*]; done)), H', ⟨by first | omega | exact Nat.le_refl _⟩, ⟨bo BK486⟩, ⟨bl HB⟩⟩
   ·rw [if_neg c7] at H
    have c7b0 : (t487 == 0) = false := beq_eq_false_iff_ne.mpr c7
    have c7b1 : (t487 != 0) = true := bne_iff_ne.mpr c7
    have H' := Aside0.mk H
    clear H
    obtain ⟨hcz11_0, hcz11_1, hcz11_2, hcz11_3⟩ := ce4 BK486
    obtain ⟨hfz11_0, hfz11_1, hfz11_2, hfz11_3⟩ := fr4 BK486
    go_wp2_with (first | (go_at_call 20; (with_reducible refine (sandglassref09_Check.calls k a0_0 a0_1 a0_2 a0_3 t487 _ A6.out).mono ?_); rintro e w12 ⟨rfl, hb⟩; replace BK486 := Aside0.mk (blk_below (bo BK486) hb); replace HB := Aside0.mk (below_step (bl HB) hb); (try clear hb); (try clear hb2); (try clear hk); (try clear hi)))
    go_meet
    case rel => exact ⟨_, (true), (by first | (with_reducible rfl) | rfl | (simp; done) | (simp [*]; done)), H', ⟨by first | omega | exact Nat.le_refl _⟩, ⟨bo BK486⟩, ⟨bl HB⟩⟩
 case rest =>
  clear HC3
  try clear c1; try clear c5; try clear c5b0; try clear c5b1; try clear c7; try clear c7b0; try clear c7b1; try clear hcz10_0; try clear hcz10_1; try clear hcz10_2; try clear hcz10_3; try clear hcz11_0; try clear hcz11_1; try clear hcz11_2; try clear hcz11_3; try clear hcz8_0; try clear hcz8_1; try clear hcz8_2; try clear hcz8_3; try clear hfz10_0; try clear hfz10_1; try clear hfz10_2; try clear hfz10_3; try clear hfz11_0; try clear hfz11_1; try clear hfz11_2; try clear hfz11_3; try clear hfz8_0; try clear hfz8_1; try clear hfz8_2; try clear hfz8_3
  obtain ⟨kq, x29_2, rfl, HA, HJ2, BK486, HB⟩ := hcut
  cases kq with
  | zero => exact absurd HA.out (by simp [sandglasslaw12_RingRate.j0])
  | succ kj2 =>
   have H := HA.out
   clear HA
   simp only [sandglasslaw12_RingRate.j0] at H
   by_cases c13 : x29_2 = true
   ·subst c13
    rw [if_pos rfl] at H
    replace H := Option.bind_eq_some_iff.mp H
    obtain ⟨t488, A140, H⟩ := H
    have A14 := Aside0.mk A140
    clear A140
    obtain rfl := Option.some.inj H
    go_wp2_with (first | ((with_reducible refine gate_callee (f := 9) rfl ?_); refine goesL_ (some 30) rfl rfl Try.func9 (by kernel_rfl) rfl #[] rfl (by (try simp only [List.map_toArray, List.map_cons, List.map_nil]); first | done | rfl | (simp only [List.length_drop, List.length_take]; rfl)) ?_; (with_reducible refine (sandglasslaw12_live.calls kj2  t488 _ A14.out).mono ?_); rintro e w15 ⟨rfl, hb⟩; refine ⟨_, rfl, ?_⟩; replace BK486 := Aside0.mk (blk_below (bo BK486) hb); replace HB := Aside0.mk (below_step (bl HB) hb); (try clear hb); (try clear hb2); (try clear hk); (try clear hi)))
    go_ret
    exact ⟨by first | (with_reducible rfl) | rfl | (simp [errW_none, errW_some] <;> rfl) | (simp [*, errW_none, errW_some] <;> rfl), bl HB⟩
   ·replace c13 := Bool.eq_false_iff.mpr c13
    subst c13
    rw [if_neg (show ¬ (false = true) by decide)] at H
    by_cases c16 : a0_3 = 0
    ·rw [if_pos c16] at H
     exact absurd H (by simp)
    ·rw [if_neg c16] at H
     have c16b0 : (a0_3 == 0) = false := beq_eq_false_iff_ne.mpr c16
     have c16b1 : (a0_3 != 0) = true := bne_iff_ne.mpr c16
     have H' := Aside0.mk H
     clear H
     go_wp2_with (first | ((with_reducible refine gate_dst (N := 5) rfl ?_); refine box_event ?hg (N := 5) ?hd (cs := #[.int .i64 0, .int .i64 0, .slice none 0 0, .slice none 0 0]) (t := 27) ?hr ?_; (case hd => rfl); (case hg => rfl); (case hr => first | (go_simp; done) | (go_simp; rfl)); intro gb489 hg w17 hbox hb; have BK489 := Aside0.mk (hbox); have GW489 := Aside0.mk ((by rw [hg]; exact (below_size (bl HB)) : w.heap.size ≤ gb489)); have GE489 := Aside0.mk ((by rw [hg]; exact (below_size (bl HB)) : w.heap.size ≤ gb489)); have NB486_489 := nb BK486 hg; have NB489_486 := bn BK486 hg; replace BK486 := Aside0.mk (blk_below (bo BK486) hb); replace HB := Aside0.mk (below_step (bl HB) hb); clear hb hbox hg; have hnb18 := NB489_486.out; have hnc18 := NB486_489.out; obtain ⟨hcz19_0, hcz19_1, hcz19_2, hcz19_3⟩ := ce4 BK489; obtain ⟨hfz19_0, hfz19_1, hfz19_2, hfz19_3⟩ := fr4 BK489) | ((with_reducible refine gate_store (t := 27) (p := 5) rfl ?_); refine store_event (t := 27) (p := 5) (v := ?vo_w20) (w1 := ((((w17.setCell ⟨gb489, 0, none⟩ (.int .i64 0)).setCell ⟨gb489, 1, none⟩ (.int .i64 0)).setCell ⟨gb489, 2, none⟩ (.slice none 0 0)).setCell ⟨gb489, 3, none⟩ (.slice none 0 0))) ?hg ?ho ?hn ?hr ?_; (case ho => rfl); (case hg => rfl); (case hn => rfl); (case hr => first | (go_simp; done) | (go_simp; rfl)); intro w20 hw; replace BK486 : Aside0 (w20.heap[gb486]? = some (.cells #[.int .i64 a0_0, .int .i64 a0_1, .int .i64 a0_2, .int .i64 a0_3] 23 (0, 0))) := ⟨(by rw [hw]; exact (by (with_reducible repeat (first | refine blk_drewN ?_ _ | refine blk_drew ?_ | refine blk_alloc ?_ _)); refine blk_far ?_ NB486_489.out _; (with_reducible repeat (first | refine blk_drewN ?_ _ | refine blk_drew ?_ | refine blk_alloc ?_ _)); refine blk_far ?_ NB486_489.out _; (with_reducible repeat (first | refine blk_drewN ?_ _ | refine blk_drew ?_ | refine blk_alloc ?_ _)); refine blk_far ?_ NB486_489.out _; (with_reducible repeat (first | refine blk_drewN ?_ _ | refine blk_drew ?_ | refine blk_alloc ?_ _)); refine blk_far ?_ NB486_489.out _; (with_reducible repeat (first | refine blk_drewN ?_ _ | refine blk_drew ?_ | refine blk_alloc ?_ _)); exact BK486.out))⟩; replace BK489 : Aside0 (w20.heap[gb489]? = some (.cells #[.int .i64 0, .int .i64 0, .slice none 0 0, .slice none 0 0] 27 (0, 0))) := ⟨(by rw [hw]; exact (by (with_reducible repeat (first | refine blk_drewN ?_ _ | refine blk_drew ?_ | refine blk_alloc ?_ _)); refine blk_put (cs := #[.int .i64 0, .int .i64 0, .slice none 0 0, .slice none 0 0]) ?_ 3 _ rfl; (with_reducible repeat (first | refine blk_drewN ?_ _ | refine blk_drew ?_ | refine blk_alloc ?_ _)); refine blk_put (cs := #[.int .i64 0, .int .i64 0, .slice none 0 0, .slice none 0 0]) ?_ 2 _ rfl; (with_reducible repeat (first | refine blk_drewN ?_ _ | refine blk_drew ?_ | refine blk_alloc ?_ _)); refine blk_put (cs := #[.int .i64 0, .int .i64 0, .slice none 0 0, .slice none 0 0]) ?_ 1 _ rfl; (with_reducible repeat (first | refine blk_drewN ?_ _ | refine blk_drew ?_ | refine blk_alloc ?_ _)); refine blk_put (cs := #[.int .i64 0, .int .i64 0, .slice none 0 0, .slice none 0 0]) ?_ 0 _ rfl; (with_reducible repeat (first | refine blk_drewN ?_ _ | refine blk_drew ?_ | refine blk_alloc ?_ _)); exact BK489.out))⟩; replace HB : Aside0 (Below w.heap.size w w20) := ⟨(by rw [hw]; exact (bl HB))⟩; clear hw; obtain ⟨hcz21_0, hcz21_1, hcz21_2, hcz21_3⟩ := ce4 BK486; obtain ⟨hfz21_0, hfz21_1, hfz21_2, hfz21_3⟩ := fr4 BK486))
     go_loopg [6, 8, 9, 10] kj2 (fun kq v6 v8 v9 v10 w' => ∃ (x6_2 : Int) (x8_2 : List Int) (x9_2 : List Int) (x10_2 : Int) (x490000_2 : Int) (x490001_2 : Int) (x490002_2 : List Int) (x490003_2 : List (S54)) (u490002 : Value) (u490003 : Value), v6 = .int .i64 x6_2 ∧ v10 = .int .i64 x10_2 ∧ Aside0 (sandglasslaw12_RingRate.l0 kq l1 x6_2 (wrap64 (Int.tdiv a0_2 a0_3)) x8_2 x9_2 x10_2 a0_0 a0_1 a0_2 a0_3 x490000_2 x490001_2 x490002_2 x490003_2 = some r) ∧ Aside0 (kq ≤ kj2) ∧ Aside0 (Kd.R (Kd.int .i64) 3 w' w.heap.size (fun k_ => some k_ ≠ (v9 : Value).ownBlock) v8 x8_2) ∧ Aside0 (Kd.R (Kd.int .i64) 3 w' w.heap.size (fun k_ => some k_ ≠ (v8 : Value).ownBlock) v9 x9_2) ∧ Aside0 (Kd.V (Kd.int .i64) 3 w' w.heap.size (fun k_ => some k_ ≠ (v8 : Value).ownBlock ∧ some k_ ≠ (v9 : Value).ownBlock ∧ k_ ≠ gb486 ∧ k_ ≠ gb489) u490002 x490002_2) ∧ Aside0 (Kd.V k54 54 w' w.heap.size (fun k_ => some k_ ≠ (v8 : Value).ownBlock ∧ some k_ ≠ (v9 : Value).ownBlock ∧ k_ ≠ gb486 ∧ k_ ≠ gb489) u490003 x490003_2) ∧ Aside0 (w'.heap[gb486]? = some (.cells #[.int .i64 a0_0, .int .i64 a0_1, .int .i64 a0_2, .int .i64 a0_3] 23 (0, 0))) ∧ Aside0 (w'.heap[gb489]? = some (.cells #[.int .i64 x490000_2, .int .i64 x490001_2, u490002, u490003] 27 (0, 0))) ∧ Aside0 (Below w.heap.size w w'))
     case atStart => exact ⟨(0), (([] : List Int)), (([] : List Int)), (0), (0), (0), (([] : List Int)), (([] : List (S54))), (.slice none 0 0), (.slice none 0 0), (by first | (with_reducible rfl) | rfl | (simp; done) | (simp [*]; done)), (by first | (with_reducible rfl) | rfl | (simp; done) | (simp [*]; done)), H', ⟨Nat.le_refl _⟩, ⟨by first | exact Kd.R_nil _ _ _ _ _ | exact Kd.N_nil _ _ _ _ _ | exact Kd.V_nil _ _ _ _ _ | exact Kd.Q_nil _ _ _ _ _ | exact Kd.S_nil _ _ _ _ _⟩, ⟨by first | exact Kd.R_nil _ _ _ _ _ | exact Kd.N_nil _ _ _ _ _ | exact Kd.V_nil _ _ _ _ _ | exact Kd.Q_nil _ _ _ _ _ | exact Kd.S_nil _ _ _ _ _⟩, ⟨Kd.V_nil _ _ _ _ _⟩, ⟨Kd.V_nil _ _ _ _ _⟩, ⟨bo BK486⟩, ⟨bo BK489⟩, ⟨bl HB⟩⟩
     case round =>
      clear H'
      try clear c1; try clear c5; try clear c5b0; try clear c5b1; try clear c7; try clear c7b0; try clear c7b1; try clear c13; try clear c16; try clear c16b0; try clear c16b1; try clear hcz10_0; try clear hcz10_1; try clear hcz10_2; try clear hcz10_3; try clear hcz11_0; try clear hcz11_1; try clear hcz11_2; try clear hcz11_3; try clear hcz19_0; try clear hcz19_1; try clear hcz19_2; try clear hcz19_3; try clear hcz21_0; try clear hcz21_1; try clear hcz21_2; try clear hcz21_3; try clear hcz8_0; try clear hcz8_1; try clear hcz8_2; try clear hcz8_3; try clear hfz10_0; try clear hfz10_1; try clear hfz10_2; try clear hfz10_3; try clear hfz11_0; try clear hfz11_1; try clear hfz11_2; try clear hfz11_3; try clear hfz19_0; try clear hfz19_1; try clear hfz19_2; try clear hfz19_3; try clear hfz21_0; try clear hfz21_1; try clear hfz21_2; try clear hfz21_3; try clear hfz8_0; try clear hfz8_1; try clear hfz8_2; try clear hfz8_3
      obtain ⟨x6_2, x8_2, x9_2, x10_2, x490000_2, x490001_2, x490002_2, x490003_2, u490002, u490003, rfl, rfl, HA, HK2, HO_8, HO_9, HO_490002, HO_490003, BK486, BK489, HB⟩ := hrel
      cases gk with
      | zero => exact absurd HA.out (by simp [sandglasslaw12_RingRate.l0])
      | succ k2 =>
       have H := HA.out
       clear HA
       simp only [sandglasslaw12_RingRate.l0] at H
       by_cases c22 : x10_2 < (l1.length : Int)
       ·rw [if_pos c22] at H
        have c22b0 : decide (x10_2 < (l1.length : Int)) = true := decide_eq_true c22
        clear c22
        have HC23 := Aside0.mk H
        clear H
        go_upto_region 11 with (fail)
        go_cut [65] (fun v65 wc => ∃ (kq : Nat) (x65_22 : Bool), v65 = .bool x65_22 ∧ Aside0 (sandglasslaw12_RingRate.j2 kq l1 x6_2 (wrap64 (Int.tdiv a0_2 a0_3)) x8_2 x9_2 x10_2 x65_22 a0_0 a0_1 a0_2 a0_3 x490000_2 x490001_2 x490002_2 x490003_2 = some r) ∧ Aside0 (kq ≤ k2) ∧ Aside0 (Kd.R (Kd.int .i64) 3 wc w.heap.size (fun k_ => some k_ ≠ (u9 : Value).ownBlock) u8 x8_2) ∧ Aside0 (Kd.R (Kd.int .i64) 3 wc w.heap.size (fun k_ => some k_ ≠ (u8 : Value).ownBlock) u9 x9_2) ∧ Aside0 (Kd.V (Kd.int .i64) 3 wc w.heap.size (fun k_ => some k_ ≠ (u8 : Value).ownBlock ∧ some k_ ≠ (u9 : Value).ownBlock ∧ k_ ≠ gb486 ∧ k_ ≠ gb489) u490002 x490002_2) ∧ Aside0 (Kd.V k54 54 wc w.heap.size (fun k_ => some k_ ≠ (u8 : Value).ownBlock ∧ some k_ ≠ (u9 : Value).ownBlock ∧ k_ ≠ gb486 ∧ k_ ≠ gb489) u490003 x490003_2) ∧ Aside0 (wc.heap[gb486]? = some (.cells #[.int .i64 a0_0, .int .i64 a0_1, .int .i64 a0_2, .int .i64 a0_3] 23 (0, 0))) ∧ Aside0 (wc.heap[gb489]? = some (.cells #[.int .i64 x490000_2, .int .i64 x490001_2, u490002, u490003] 27 (0, 0))) ∧ Aside0 (Below w.heap.size w wc))
        case first =>
         have H := HC23.out
         clear HC23
         by_cases c24 : 0 ≤ x10_2
         ·rw [if_pos c24] at H
          have c24b0 : decide (0 ≤ x10_2) = true := decide_eq_true c24
          clear c24
          (first | rw [c24b0] | (simp only [i64_w, i32_w]; rw [c24b0]) | skip)
          by_cases c25 : ((rd_T45 l1 x10_2).f0) < 0
          ·rw [if_pos c25] at H
           have c25b0 : decide (((rd_T45 l1 x10_2).f0) < 0) = true := decide_eq_true c25
           clear c25
           have H' := Aside0.mk H
           clear H
           have p490 : 0 ≤ (x10_2 : Int) := of_decide_eq_true (by first | (with_reducible assumption) | assumption)
           have q490 : x10_2 < (l1.length : Int) := of_decide_eq_true (by first | (with_reducible assumption) | assumption)
           obtain ⟨ad490, e490, hx490_0, hx490_1⟩ := at_T45 HR1.out x10_2 p490 q490
           cases e490
           replace hx490_0 := (HB.out.cell (World.block_lt_of_cell? w _ hx490_0)).trans hx490_0
           replace hx490_1 := (HB.out.cell (World.block_lt_of_cell? w _ hx490_1)).trans hx490_1
           replace p490 := eq_true p490
           replace q490 := eq_true q490
           go_wp2
           go_meet
           case rel => exact ⟨_, (true), (by first | (with_reducible rfl) | rfl | (simp; done) | (simp [*]; done)), H', ⟨by have := HJ2.out; have := HK2.out; first | omega | exact Nat.le_refl _⟩, ⟨by (with_reducible repeat (first | apply Kd.R_alloc | apply Kd.R_drewN | apply Kd.R_drew)); exact HO_8.out⟩, ⟨by (with_reducible repeat (first | apply Kd.R_alloc | apply Kd.R_drewN | apply Kd.R_drew)); exact HO_9.out⟩, ⟨by (with_reducible repeat (first | apply Kd.V_alloc | apply Kd.V_drewN | apply Kd.V_drew)); exact HO_490002.out⟩, ⟨by (with_reducible repeat (first | apply Kd.V_alloc | apply Kd.V_drewN | apply Kd.V_drew)); exact HO_490003.out⟩, ⟨bo BK486⟩, ⟨bo BK489⟩, ⟨bl HB⟩⟩
          ·rw [if_neg c25] at H
           have c25b0 : decide (((rd_T45 l1 x10_2).f0) < 0) = false := decide_eq_false c25
           clear c25
           by_cases c26 : ((rd_T45 l1 x10_2).f0) > 1048576
           ·rw [if_pos c26] at H
            have c26b0 : decide (1048576 < ((rd_T45 l1 x10_2).f0)) = true := decide_eq_true c26
            clear c26
            have H' := Aside0.mk H
            clear H
            have p490 : 0 ≤ (x10_2 : Int) := of_decide_eq_true (by first | (with_reducible assumption) | assumption)
            have q490 : x10_2 < (l1.length : Int) := of_decide_eq_true (by first | (with_reducible assumption) | assumption)
            obtain ⟨ad490, e490, hx490_0, hx490_1⟩ := at_T45 HR1.out x10_2 p490 q490
            cases e490
            replace hx490_0 := (HB.out.cell (World.block_lt_of_cell? w _ hx490_0)).trans hx490_0
            replace hx490_1 := (HB.out.cell (World.block_lt_of_cell? w _ hx490_1)).trans hx490_1
            replace p490 := eq_true p490
            replace q490 := eq_true q490
            have p491 : 0 ≤ (x10_2 : Int) := of_decide_eq_true (by first | (with_reducible assumption) | assumption)
            have q491 : x10_2 < (l1.length : Int) := of_decide_eq_true (by first | (with_reducible assumption) | assumption)
            obtain ⟨ad491, e491, hx491_0, hx491_1⟩ := at_T45 HR1.out x10_2 p491 q491
            obtain rfl : ad490 = ad491 := (by injection e491)
            replace hx491_0 := (HB.out.cell (World.block_lt_of_cell? w _ hx491_0)).trans hx491_0
            replace hx491_1 := (HB.out.cell (World.block_lt_of_cell? w _ hx491_1)).trans hx491_1
            replace p491 := eq_true p491
            replace q491 := eq_true q491
            go_wp2
            go_meet
            case rel => exact ⟨_, (true), (by first | (with_reducible rfl) | rfl | (simp; done) | (simp [*]; done)), H', ⟨by have := HJ2.out; have := HK2.out; first | omega | exact Nat.le_refl _⟩, ⟨by (with_reducible repeat (first | apply Kd.R_alloc | apply Kd.R_drewN | apply Kd.R_drew)); exact HO_8.out⟩, ⟨by (with_reducible repeat (first | apply Kd.R_alloc | apply Kd.R_drewN | apply Kd.R_drew)); exact HO_9.out⟩, ⟨by (with_reducible repeat (first | apply Kd.V_alloc | apply Kd.V_drewN | apply Kd.V_drew)); exact HO_490002.out⟩, ⟨by (with_reducible repeat (first | apply Kd.V_alloc | apply Kd.V_drewN | apply Kd.V_drew)); exact HO_490003.out⟩, ⟨bo BK486⟩, ⟨bo BK489⟩, ⟨bl HB⟩⟩
           ·rw [if_neg c26] at H
            have c26b0 : decide (1048576 < ((rd_T45 l1 x10_2).f0)) = false := decide_eq_false c26
            clear c26
            replace H := Option.bind_eq_some_iff.mp H
            obtain ⟨t493, A270, H⟩ := H
            have A27 := Aside0.mk A270
            clear A270
            have H' := Aside0.mk H
            clear H
            have p490 : 0 ≤ (x10_2 : Int) := of_decide_eq_true (by first | (with_reducible assumption) | assumption)
            have q490 : x10_2 < (l1.length : Int) := of_decide_eq_true (by first | (with_reducible assumption) | assumption)
            obtain ⟨ad490, e490, hx490_0, hx490_1⟩ := at_T45 HR1.out x10_2 p490 q490
            cases e490
            replace hx490_0 := (HB.out.cell (World.block_lt_of_cell? w _ hx490_0)).trans hx490_0
            replace hx490_1 := (HB.out.cell (World.block_lt_of_cell? w _ hx490_1)).trans hx490_1
            replace p490 := eq_true p490
            replace q490 := eq_true q490
            have p491 : 0 ≤ (x10_2 : Int) := of_decide_eq_true (by first | (with_reducible assumption) | assumption)
            have q491 : x10_2 < (l1.length : Int) := of_decide_eq_true (by first | (with_reducible assumption) | assumption)
            obtain ⟨ad491, e491, hx491_0, hx491_1⟩ := at_T45 HR1.out x10_2 p491 q491
            obtain rfl : ad490 = ad491 := (by injection e491)
            replace hx491_0 := (HB.out.cell (World.block_lt_of_cell? w _ hx491_0)).trans hx491_0
            replace hx491_1 := (HB.out.cell (World.block_lt_of_cell? w _ hx491_1)).trans hx491_1
            replace p491 := eq_true p491
            replace q491 := eq_true q491
            have p492 : 0 ≤ (x10_2 : Int) := of_decide_eq_true (by first | (with_reducible assumption) | assumption)
            have q492 : x10_2 < (l1.length : Int) := of_decide_eq_true (by first | (with_reducible assumption) | assumption)
            obtain ⟨ad492, e492, hx492_0, hx492_1⟩ := at_T45 HR1.out x10_2 p492 q492
            obtain rfl : ad490 = ad492 := (by injection e492)
            replace hx492_0 := (HB.out.cell (World.block_lt_of_cell? w _ hx492_0)).trans hx492_0
            replace hx492_1 := (HB.out.cell (World.block_lt_of_cell? w _ hx492_1)).trans hx492_1
            replace p492 := eq_true p492
            replace q492 := eq_true q492
            go_wp2_with (first | (go_at_call 19; (with_reducible refine (sandglassref09_Weighs.calls ((rd_T45 l1 x10_2).f1) t493 _ A27.out).mono ?_); rintro e w' ⟨rfl, ⟨nd, rfl⟩⟩))
            go_meet
            case rel => exact ⟨_, (!t493), (by first | (with_reducible rfl) | rfl | (simp; done) | (simp [*]; done)), H', ⟨by have := HJ2.out; have := HK2.out; first | omega | exact Nat.le_refl _⟩, ⟨by (with_reducible repeat (first | apply Kd.R_alloc | apply Kd.R_drewN | apply Kd.R_drew)); exact HO_8.out⟩, ⟨by (with_reducible repeat (first | apply Kd.R_alloc | apply Kd.R_drewN | apply Kd.R_drew)); exact HO_9.out⟩, ⟨by (with_reducible repeat (first | apply Kd.V_alloc | apply Kd.V_drewN | apply Kd.V_drew)); exact HO_490002.out⟩, ⟨by (with_reducible repeat (first | apply Kd.V_alloc | apply Kd.V_drewN | apply Kd.V_drew)); exact HO_490003.out⟩, ⟨bo BK486⟩, ⟨bo BK489⟩, ⟨bl HB⟩⟩
         ·rw [if_neg c24] at H
          exact absurd H (by simp)
        case rest =>
         clear HC23
         try clear c1; try clear c5; try clear c5b0; try clear c5b1; try clear c7; try clear c7b0; try clear c7b1; try clear c13; try clear c16; try clear c16b0; try clear c16b1; try clear c22; try clear c22b0; try clear c24; try clear c24b0; try clear c25; try clear c25b0; try clear c26; try clear c26b0; try clear hcz10_0; try clear hcz10_1; try clear hcz10_2; try clear hcz10_3; try clear hcz11_0; try clear hcz11_1; try clear hcz11_2; try clear hcz11_3; try clear hcz19_0; try clear hcz19_1; try clear hcz19_2; try clear hcz19_3; try clear hcz21_0; try clear hcz21_1; try clear hcz21_2; try clear hcz21_3; try clear hcz8_0; try clear hcz8_1; try clear hcz8_2; try clear hcz8_3; try clear hfz10_0; try clear hfz10_1; try clear hfz10_2; try clear hfz10_3; try clear hfz11_0; try clear hfz11_1; try clear hfz11_2; try clear hfz11_3; try clear hfz19_0; try clear hfz19_1; try clear hfz19_2; try clear hfz19_3; try clear hfz21_0; try clear hfz21_1; try clear hfz21_2; try clear hfz21_3; try clear hfz8_0; try clear hfz8_1; try clear hfz8_2; try clear hfz8_3; try clear hx490_0; try clear hx490_1; try clear hx491_0; try clear hx491_1; try clear hx492_0; try clear hx492_1; try clear p490; try clear p491; try clear p492; try clear q490; try clear q491; try clear q492
         obtain ⟨kq, x65_22, rfl, HA, HJ22, HO_8, HO_9, HO_490002, HO_490003, BK486, BK489, HB⟩ := hcut
         cases kq with
         | zero => exact absurd HA.out (by simp [sandglasslaw12_RingRate.j2])
         | succ kj22 =>
          have H := HA.out
          clear HA
          simp only [sandglasslaw12_RingRate.j2] at H
          by_cases c28 : x65_22 = true
          ·subst c28
           rw [if_pos rfl] at H
           replace H := Option.bind_eq_some_iff.mp H
           obtain ⟨t494, A290, H⟩ := H
           have A29 := Aside0.mk A290
           clear A290
           obtain rfl := Option.some.inj H
           go_wp2_with (first | ((with_reducible refine gate_callee (f := 9) rfl ?_); refine goesL_ (some 66) rfl rfl Try.func9 (by kernel_rfl) rfl #[] rfl (by (try simp only [List.map_toArray, List.map_cons, List.map_nil]); first | done | rfl | (simp only [List.length_drop, List.length_take]; rfl)) ?_; (with_reducible refine (sandglasslaw12_live.calls kj22  t494 _ A29.out).mono ?_); rintro e w30 ⟨rfl, hb⟩; refine ⟨_, rfl, ?_⟩; replace HO_8 := Aside0.mk (Kd.R_below (by (with_reducible repeat (first | apply Kd.R_alloc | apply Kd.R_drewN | apply Kd.R_drew)); exact HO_8.out) hb); replace HO_9 := Aside0.mk (Kd.R_below (by (with_reducible repeat (first | apply Kd.R_alloc | apply Kd.R_drewN | apply Kd.R_drew)); exact HO_9.out) hb); replace HO_490002 := vb HO_490002 hb; replace HO_490003 := vb HO_490003 hb; replace BK486 := Aside0.mk (blk_below (bo BK486) hb); replace BK489 := Aside0.mk (blk_below (bo BK489) hb); replace HB := Aside0.mk (below_step (bl HB) hb); (try clear hb); (try clear hb2); (try clear hk); (try clear hi)))
           go_ret
           exact ⟨by first | (with_reducible rfl) | rfl | (simp [errW_none, errW_some] <;> rfl) | (simp [*, errW_none, errW_some] <;> rfl), bl HB⟩
          ·replace c28 := Bool.eq_false_iff.mpr c28
           subst c28
           rw [if_neg (show ¬ (false = true) by decide)] at H
           by_cases c31 : 0 ≤ x10_2
           ·rw [if_pos c31] at H
            have c31b0 : decide (0 ≤ x10_2) = true := decide_eq_true c31
            clear c31
            by_cases c32 : x10_2 < (l1.length : Int)
            ·rw [if_pos c32] at H
             have c32b0 : decide (x10_2 < (l1.length : Int)) = true := decide_eq_true c32
             clear c32
             replace H := Option.bind_eq_some_iff.mp H
             obtain ⟨⟨t497, t498, t499, t502, t505, t506, t507, t508⟩, A330, H⟩ := H
             have A33 := Aside0.mk A330
             clear A330
             by_cases c34 : x8_2.length < 17592186044416
             ·rw [if_pos c34] at H
              have LMc34 := Aside0.mk c34
              clear c34
              obtain ⟨y511, hy511⟩ : ∃ y_ : List Int, y_ = (x8_2 ++ [wrap64 (x6_2 + ((rd_T45 l1 x10_2).f0))]) := ⟨_, rfl⟩
              replace H : (if t505 = true then (sandglasslaw12_RingRate.j3 kj22 l1 (wrap64 (x6_2 + ((rd_T45 l1 x10_2).f0))) (wrap64 (Int.tdiv a0_2 a0_3)) y511 x9_2 x10_2 ((rd_T45 l1 x10_2).f1) a0_0 a0_1 a0_2 a0_3 t497 t498 t499 t502 t505 t506 t507 t508) else (sandglasslaw12_RingRate.j3 kj22 l1 (wrap64 (x6_2 + ((rd_T45 l1 x10_2).f0))) (wrap64 (Int.tdiv a0_2 a0_3)) y511 x9_2 x10_2 0 a0_0 a0_1 a0_2 a0_3 t497 t498 t499 t502 t505 t506 t507 t508)) = some r := by first | (rw [hy511]; with_reducible exact H) | (have H2_ := (Option.bind_some _ _).symm.trans H; rw [hy511]; with_reducible exact H2_) | (have H2_ := (Option.bind_some _ _).symm.trans H; with_reducible exact H2_) | with_reducible exact H | (rw [hy511]; exact H) | exact H
              have Ny511 := Aside0.mk hy511
              clear hy511
              have HC35 := Aside0.mk H
              clear H
              have p495 : 0 ≤ (x10_2 : Int) := of_decide_eq_true (by first | (with_reducible assumption) | assumption)
              have q495 : x10_2 < (l1.length : Int) := of_decide_eq_true (by first | (with_reducible assumption) | assumption)
              obtain ⟨ad495, e495, hx495_0, hx495_1⟩ := at_T45 HR1.out x10_2 p495 q495
              cases e495
              replace hx495_0 := (HB.out.cell (World.block_lt_of_cell? w _ hx495_0)).trans hx495_0
              replace hx495_1 := (HB.out.cell (World.block_lt_of_cell? w _ hx495_1)).trans hx495_1
              replace p495 := eq_true p495
              replace q495 := eq_true q495
              obtain ⟨Ao36, co36, eo36⟩ := Kd.V_slice HO_490002.out
              subst eo36
              obtain ⟨Ao37, co37, eo37⟩ := Kd.V_slice HO_490003.out
              subst eo37
              try go_wp2
              replace HO_8 := Aside0.mk (Kd.R_drew HO_8.out)
              replace HO_9 := Aside0.mk (Kd.R_drew HO_9.out)
              replace HO_490002 := Aside0.mk (Kd.V_drew HO_490002.out)
              replace HO_490003 := Aside0.mk (Kd.V_drew HO_490003.out)
              replace BK486 := Aside0.mk (blk_drew BK486.out)
              replace BK489 := Aside0.mk (blk_drew BK489.out)
              replace HB := Aside0.mk (below_drew1 HB.out)
              have p496 : 0 ≤ (x10_2 : Int) := of_decide_eq_true (by first | (with_reducible assumption) | assumption)
              have q496 : x10_2 < (l1.length : Int) := of_decide_eq_true (by first | (with_reducible assumption) | assumption)
              obtain ⟨ad496, e496, hx496_0, hx496_1⟩ := at_T45 HR1.out x10_2 p496 q496
              have hw496_1 := hx496_1
              have hw496_0 := hx496_0
              obtain rfl : ad495 = ad496 := (by injection e496)
              replace hx496_0 := (HB.out.cell (World.block_lt_of_cell? w _ hx496_0)).trans hx496_0
              replace hx496_1 := (HB.out.cell (World.block_lt_of_cell? w _ hx496_1)).trans hx496_1
              replace p496 := eq_true p496
              replace q496 := eq_true q496
              refine start_ (n := 16) (S := fun w' => w'.cell? ⟨gb486, 0, none⟩ = some (.int .i64 a0_0) ∧ w'.cell? ⟨gb486, 1, none⟩ = some (.int .i64 a0_1) ∧ w'.cell? ⟨gb486, 2, none⟩ = some (.int .i64 a0_2) ∧ w'.cell? ⟨gb486, 3, none⟩ = some (.int .i64 a0_3) ∧ w'.cell? ⟨gb489, 0, none⟩ = some (.int .i64 x490000_2) ∧ w'.cell? ⟨gb489, 1, none⟩ = some (.int .i64 x490001_2) ∧ w'.cell? ⟨gb489, 2, none⟩ = some (.slice Ao36 x490002_2.length co36) ∧ w'.cell? ⟨gb489, 3, none⟩ = some (.slice Ao37 x490003_2.length co37) ∧ w'.cell? (ad495.add ((x10_2).toNat * 2)) = some (.int .i64 ((rd_T45 l1 x10_2).f0)) ∧ w'.cell? ⟨(ad495.add ((x10_2).toNat * 2)).block, (ad495.add ((x10_2).toNat * 2)).off + 1, none⟩ = some (.int .i64 ((rd_T45 l1 x10_2).f1))) (ds := []) #[false, false, false, false, false, false, false, false, false, false, false, false, false, false, false, false] (by kernel_rfl) rfl rfl ⟨(blk_cell BK486.out 0).trans rfl, (blk_cell BK486.out 1).trans rfl, (blk_cell BK486.out 2).trans rfl, (blk_cell BK486.out 3).trans rfl, (blk_cell BK489.out 0).trans rfl, (blk_cell BK489.out 1).trans rfl, (blk_cell BK489.out 2).trans rfl, (blk_cell BK489.out 3).trans rfl, ((HB.out.cell (World.block_lt_of_cell? w _ hw496_0)).trans hw496_0), ((HB.out.cell (World.block_lt_of_cell? w _ hw496_1)).trans hw496_1)⟩ (fun hHeld => ?_); refine with_tabW sandglasslaw12_RingRate.tab14 sandglasslaw12_RingRate.bits14 (fun HT_ HW_ => ?_)
              generalize wc.drew = w38 at HO_8 HO_9 HO_490002 HO_490003 BK486 BK489 HB hx496_0 hx496_1 hHeld ⊢
              refine pureA 2 77 HT_ ?_
              refine pureA 3 78 HT_ ?_
              refine pureA 4 79 HT_ ?_
              refine pureA 5 80 HT_ ?_
              refine pureA 6 81 HT_ ?_
              refine takeA 0 75 HT_ HW_ hHeld ?_
              refine takeA 1 76 HT_ HW_ hHeld ?_
              refine takeA 7 82 HT_ HW_ hHeld ?_
              refine join_ (σ := Value × Value × Nat × Nat) 2 #[true, true, true, true, true, true, true, true, true, true, true, true, true, true, false, false] (fun s_ => [(83, .tuple #[.agg #[.int .i64 t497, .int .i64 t498, s_.1, s_.2.1], .agg #[.bool t505, .int .i64 t506, .int .i64 t507, .int .i64 t508]]), (11, .pointer (some ⟨s_.2.2.1, 0, none⟩)), (12, .pointer (some ⟨s_.2.2.2, 0, none⟩)), (74, .tuple #[.agg #[.int .i64 t497, .int .i64 t498, s_.1, s_.2.1], .agg #[.bool t505, .int .i64 t506, .int .i64 t507, .int .i64 t508]]), (84, .agg #[.int .i64 t497, .int .i64 t498, s_.1, s_.2.1]), (85, .agg #[.bool t505, .int .i64 t506, .int .i64 t507, .int .i64 t508])]) (fun s_ w' => (w'.cell? ⟨gb486, 0, none⟩ = some (.int .i64 a0_0) ∧ w'.cell? ⟨gb486, 1, none⟩ = some (.int .i64 a0_1) ∧ w'.cell? ⟨gb486, 2, none⟩ = some (.int .i64 a0_2) ∧ w'.cell? ⟨gb486, 3, none⟩ = some (.int .i64 a0_3) ∧ w'.cell? ⟨gb489, 0, none⟩ = some (.int .i64 x490000_2) ∧ w'.cell? ⟨gb489, 1, none⟩ = some (.int .i64 x490001_2) ∧ w'.cell? ⟨gb489, 2, none⟩ = some (.slice Ao36 x490002_2.length co36) ∧ w'.cell? ⟨gb489, 3, none⟩ = some (.slice Ao37 x490003_2.length co37) ∧ w'.cell? (ad495.add ((x10_2).toNat * 2)) = some (.int .i64 ((rd_T45 l1 x10_2).f0)) ∧ w'.cell? ⟨(ad495.add ((x10_2).toNat * 2)).block, (ad495.add ((x10_2).toNat * 2)).off + 1, none⟩ = some (.int .i64 ((rd_T45 l1 x10_2).f1))) ∧ (Kd.V (Kd.int .i64) 3 w' w.heap.size (fun k_ => some k_ ≠ (u8 : Value).ownBlock ∧ some k_ ≠ (u9 : Value).ownBlock ∧ k_ ≠ gb486 ∧ k_ ≠ gb489 ∧ k_ ≠ s_.2.2.1 ∧ k_ ≠ s_.2.2.2) s_.1 t499) ∧ (Kd.V k54 54 w' w.heap.size (fun k_ => some k_ ≠ (u8 : Value).ownBlock ∧ some k_ ≠ (u9 : Value).ownBlock ∧ k_ ≠ gb486 ∧ k_ ≠ gb489 ∧ k_ ≠ s_.2.2.1 ∧ k_ ≠ s_.2.2.2) s_.2.1 t502) ∧ (Kd.V (Kd.int .i64) 3 w' w.heap.size (fun k_ => some k_ ≠ (u8 : Value).ownBlock ∧ some k_ ≠ (u9 : Value).ownBlock ∧ k_ ≠ gb486 ∧ k_ ≠ gb489 ∧ k_ ≠ s_.2.2.1 ∧ k_ ≠ s_.2.2.2) (.slice Ao36 x490002_2.length co36) x490002_2) ∧ (Kd.V k54 54 w' w.heap.size (fun k_ => some k_ ≠ (u8 : Value).ownBlock ∧ some k_ ≠ (u9 : Value).ownBlock ∧ k_ ≠ gb486 ∧ k_ ≠ gb489 ∧ k_ ≠ s_.2.2.1 ∧ k_ ≠ s_.2.2.2) (.slice Ao37 x490003_2.length co37) x490003_2) ∧ (Kd.R (Kd.int .i64) 3 w' w.heap.size (fun k_ => some k_ ≠ (u9 : Value).ownBlock) u8 x8_2) ∧ (Kd.R (Kd.int .i64) 3 w' w.heap.size (fun k_ => some k_ ≠ (u8 : Value).ownBlock) u9 x9_2) ∧ (w'.heap[gb486]? = some (.cells #[.int .i64 a0_0, .int .i64 a0_1, .int .i64 a0_2, .int .i64 a0_3] 23 (0, 0))) ∧ (w'.heap[gb489]? = some (.cells #[.int .i64 x490000_2, .int .i64 x490001_2, .slice Ao36 x490002_2.length co36, .slice Ao37 x490003_2.length co37] 27 (0, 0))) ∧ (w'.heap[s_.2.2.1]? = some (.cells #[.int .i64 0, .int .i64 0, .slice none 0 0, .slice none 0 0] 27 (0, 0))) ∧ (w'.heap[s_.2.2.2]? = some (.cells #[.bool false, .int .i64 0, .int .i64 0, .int .i64 0] 32 (0, 0))) ∧ (w.heap.size ≤ s_.2.2.1) ∧ (w.heap.size ≤ s_.2.2.1) ∧ (gb486 ≠ s_.2.2.1) ∧ (s_.2.2.1 ≠ gb486) ∧ (gb489 ≠ s_.2.2.1) ∧ (s_.2.2.1 ≠ gb489) ∧ (s_.2.2.2 ≠ s_.2.2.1) ∧ (s_.2.2.1 ≠ s_.2.2.2) ∧ (w.heap.size ≤ s_.2.2.2) ∧ (w.heap.size ≤ s_.2.2.2) ∧ (gb486 ≠ s_.2.2.2) ∧ (s_.2.2.2 ≠ gb486) ∧ (gb489 ≠ s_.2.2.2) ∧ (s_.2.2.2 ≠ gb489) ∧ (Below w.heap.size w w')) ?_ ?_
              rotate_left
              ·intro hJ8_12_13
               refine join_ (σ := Value × Value × Nat) 3 #[true, true, true, true, true, true, true, true, true, true, true, true, true, false, false, false] (fun s_ => [(83, .tuple #[.agg #[.int .i64 t497, .int .i64 t498, s_.1, s_.2.1], .agg #[.bool t505, .int .i64 t506, .int .i64 t507, .int .i64 t508]]), (11, .pointer (some ⟨s_.2.2, 0, none⟩)), (74, .tuple #[.agg #[.int .i64 t497, .int .i64 t498, s_.1, s_.2.1], .agg #[.bool t505, .int .i64 t506, .int .i64 t507, .int .i64 t508]]), (84, .agg #[.int .i64 t497, .int .i64 t498, s_.1, s_.2.1]), (85, .agg #[.bool t505, .int .i64 t506, .int .i64 t507, .int .i64 t508])]) (fun s_ w' => (w'.cell? ⟨gb486, 0, none⟩ = some (.int .i64 a0_0) ∧ w'.cell? ⟨gb486, 1, none⟩ = some (.int .i64 a0_1) ∧ w'.cell? ⟨gb486, 2, none⟩ = some (.int .i64 a0_2) ∧ w'.cell? ⟨gb486, 3, none⟩ = some (.int .i64 a0_3) ∧ w'.cell? ⟨gb489, 0, none⟩ = some (.int .i64 x490000_2) ∧ w'.cell? ⟨gb489, 1, none⟩ = some (.int .i64 x490001_2) ∧ w'.cell? ⟨gb489, 2, none⟩ = some (.slice Ao36 x490002_2.length co36) ∧ w'.cell? ⟨gb489, 3, none⟩ = some (.slice Ao37 x490003_2.length co37) ∧ w'.cell? (ad495.add ((x10_2).toNat * 2)) = some (.int .i64 ((rd_T45 l1 x10_2).f0)) ∧ w'.cell? ⟨(ad495.add ((x10_2).toNat * 2)).block, (ad495.add ((x10_2).toNat * 2)).off + 1, none⟩ = some (.int .i64 ((rd_T45 l1 x10_2).f1))) ∧ (Kd.V (Kd.int .i64) 3 w' w.heap.size (fun k_ => some k_ ≠ (u8 : Value).ownBlock ∧ some k_ ≠ (u9 : Value).ownBlock ∧ k_ ≠ gb486 ∧ k_ ≠ gb489 ∧ k_ ≠ s_.2.2) s_.1 t499) ∧ (Kd.V k54 54 w' w.heap.size (fun k_ => some k_ ≠ (u8 : Value).ownBlock ∧ some k_ ≠ (u9 : Value).ownBlock ∧ k_ ≠ gb486 ∧ k_ ≠ gb489 ∧ k_ ≠ s_.2.2) s_.2.1 t502) ∧ (Kd.V (Kd.int .i64) 3 w' w.heap.size (fun k_ => some k_ ≠ (u8 : Value).ownBlock ∧ some k_ ≠ (u9 : Value).ownBlock ∧ k_ ≠ gb486 ∧ k_ ≠ gb489 ∧ k_ ≠ s_.2.2) (.slice Ao36 x490002_2.length co36) x490002_2) ∧ (Kd.V k54 54 w' w.heap.size (fun k_ => some k_ ≠ (u8 : Value).ownBlock ∧ some k_ ≠ (u9 : Value).ownBlock ∧ k_ ≠ gb486 ∧ k_ ≠ gb489 ∧ k_ ≠ s_.2.2) (.slice Ao37 x490003_2.length co37) x490003_2) ∧ (Kd.R (Kd.int .i64) 3 w' w.heap.size (fun k_ => some k_ ≠ (u9 : Value).ownBlock) u8 x8_2) ∧ (Kd.R (Kd.int .i64) 3 w' w.heap.size (fun k_ => some k_ ≠ (u8 : Value).ownBlock) u9 x9_2) ∧ (w'.heap[gb486]? = some (.cells #[.int .i64 a0_0, .int .i64 a0_1, .int .i64 a0_2, .int .i64 a0_3] 23 (0, 0))) ∧ (w'.heap[gb489]? = some (.cells #[.int .i64 x490000_2, .int .i64 x490001_2, .slice Ao36 x490002_2.length co36, .slice Ao37 x490003_2.length co37] 27 (0, 0))) ∧ (w'.heap[s_.2.2]? = some (.cells #[.int .i64 0, .int .i64 0, .slice none 0 0, .slice none 0 0] 27 (0, 0))) ∧ (w.heap.size ≤ s_.2.2) ∧ (w.heap.size ≤ s_.2.2) ∧ (gb486 ≠ s_.2.2) ∧ (s_.2.2 ≠ gb486) ∧ (gb489 ≠ s_.2.2) ∧ (s_.2.2 ≠ gb489) ∧ (Below w.heap.size w w')) ?_ ?_
               rotate_left
               ·intro hJ8_12
                refine join_ (σ := Value × Value × Nat) 3 #[true, true, true, true, true, true, true, true, true, true, true, true, false, true, false, false] (fun s_ => [(83, .tuple #[.agg #[.int .i64 t497, .int .i64 t498, s_.1, s_.2.1], .agg #[.bool t505, .int .i64 t506, .int .i64 t507, .int .i64 t508]]), (12, .pointer (some ⟨s_.2.2, 0, none⟩)), (74, .tuple #[.agg #[.int .i64 t497, .int .i64 t498, s_.1, s_.2.1], .agg #[.bool t505, .int .i64 t506, .int .i64 t507, .int .i64 t508]]), (84, .agg #[.int .i64 t497, .int .i64 t498, s_.1, s_.2.1]), (85, .agg #[.bool t505, .int .i64 t506, .int .i64 t507, .int .i64 t508])]) (fun s_ w' => (w'.cell? ⟨gb486, 0, none⟩ = some (.int .i64 a0_0) ∧ w'.cell? ⟨gb486, 1, none⟩ = some (.int .i64 a0_1) ∧ w'.cell? ⟨gb486, 2, none⟩ = some (.int .i64 a0_2) ∧ w'.cell? ⟨gb486, 3, none⟩ = some (.int .i64 a0_3) ∧ w'.cell? ⟨gb489, 0, none⟩ = some (.int .i64 x490000_2) ∧ w'.cell? ⟨gb489, 1, none⟩ = some (.int .i64 x490001_2) ∧ w'.cell? ⟨gb489, 2, none⟩ = some (.slice Ao36 x490002_2.length co36) ∧ w'.cell? ⟨gb489, 3, none⟩ = some (.slice Ao37 x490003_2.length co37) ∧ w'.cell? (ad495.add ((x10_2).toNat * 2)) = some (.int .i64 ((rd_T45 l1 x10_2).f0)) ∧ w'.cell? ⟨(ad495.add ((x10_2).toNat * 2)).block, (ad495.add ((x10_2).toNat * 2)).off + 1, none⟩ = some (.int .i64 ((rd_T45 l1 x10_2).f1))) ∧ (Kd.V (Kd.int .i64) 3 w' w.heap.size (fun k_ => some k_ ≠ (u8 : Value).ownBlock ∧ some k_ ≠ (u9 : Value).ownBlock ∧ k_ ≠ gb486 ∧ k_ ≠ gb489 ∧ k_ ≠ s_.2.2) s_.1 t499) ∧ (Kd.V k54 54 w' w.heap.size (fun k_ => some k_ ≠ (u8 : Value).ownBlock ∧ some k_ ≠ (u9 : Value).ownBlock ∧ k_ ≠ gb486 ∧ k_ ≠ gb489 ∧ k_ ≠ s_.2.2) s_.2.1 t502) ∧ (Kd.V (Kd.int .i64) 3 w' w.heap.size (fun k_ => some k_ ≠ (u8 : Value).ownBlock ∧ some k_ ≠ (u9 : Value).ownBlock ∧ k_ ≠ gb486 ∧ k_ ≠ gb489 ∧ k_ ≠ s_.2.2) (.slice Ao36 x490002_2.length co36) x490002_2) ∧ (Kd.V k54 54 w' w.heap.size (fun k_ => some k_ ≠ (u8 : Value).ownBlock ∧ some k_ ≠ (u9 : Value).ownBlock ∧ k_ ≠ gb486 ∧ k_ ≠ gb489 ∧ k_ ≠ s_.2.2) (.slice Ao37 x490003_2.length co37) x490003_2) ∧ (Kd.R (Kd.int .i64) 3 w' w.heap.size (fun k_ => some k_ ≠ (u9 : Value).ownBlock) u8 x8_2) ∧ (Kd.R (Kd.int .i64) 3 w' w.heap.size (fun k_ => some k_ ≠ (u8 : Value).ownBlock) u9 x9_2) ∧ (w'.heap[gb486]? = some (.cells #[.int .i64 a0_0, .int .i64 a0_1, .int .i64 a0_2, .int .i64 a0_3] 23 (0, 0))) ∧ (w'.heap[gb489]? = some (.cells #[.int .i64 x490000_2, .int .i64 x490001_2, .slice Ao36 x490002_2.length co36, .slice Ao37 x490003_2.length co37] 27 (0, 0))) ∧ (w'.heap[s_.2.2]? = some (.cells #[.bool false, .int .i64 0, .int .i64 0, .int .i64 0] 32 (0, 0))) ∧ (w.heap.size ≤ s_.2.2) ∧ (w.heap.size ≤ s_.2.2) ∧ (gb486 ≠ s_.2.2) ∧ (s_.2.2 ≠ gb486) ∧ (gb489 ≠ s_.2.2) ∧ (s_.2.2 ≠ gb489) ∧ (Below w.heap.size w w')) ?_ ?_
                rotate_left
                ·intro hJ8_13
                 refine join_ (σ := Nat × Nat) 6 #[true, true, true, true, true, true, true, true, false, false, false, false, true, true, false, false] (fun s_ => [(11, .pointer (some ⟨s_.1, 0, none⟩)), (12, .pointer (some ⟨s_.2, 0, none⟩))]) (fun s_ w' => (w'.cell? ⟨gb486, 0, none⟩ = some (.int .i64 a0_0) ∧ w'.cell? ⟨gb486, 1, none⟩ = some (.int .i64 a0_1) ∧ w'.cell? ⟨gb486, 2, none⟩ = some (.int .i64 a0_2) ∧ w'.cell? ⟨gb486, 3, none⟩ = some (.int .i64 a0_3) ∧ w'.cell? ⟨gb489, 0, none⟩ = some (.int .i64 x490000_2) ∧ w'.cell? ⟨gb489, 1, none⟩ = some (.int .i64 x490001_2) ∧ w'.cell? ⟨gb489, 2, none⟩ = some (.slice Ao36 x490002_2.length co36) ∧ w'.cell? ⟨gb489, 3, none⟩ = some (.slice Ao37 x490003_2.length co37) ∧ w'.cell? (ad495.add ((x10_2).toNat * 2)) = some (.int .i64 ((rd_T45 l1 x10_2).f0)) ∧ w'.cell? ⟨(ad495.add ((x10_2).toNat * 2)).block, (ad495.add ((x10_2).toNat * 2)).off + 1, none⟩ = some (.int .i64 ((rd_T45 l1 x10_2).f1))) ∧ (Kd.V (Kd.int .i64) 3 w' w.heap.size (fun k_ => some k_ ≠ (u8 : Value).ownBlock ∧ some k_ ≠ (u9 : Value).ownBlock ∧ k_ ≠ gb486 ∧ k_ ≠ gb489 ∧ k_ ≠ s_.1 ∧ k_ ≠ s_.2) (.slice Ao36 x490002_2.length co36) x490002_2) ∧ (Kd.V k54 54 w' w.heap.size (fun k_ => some k_ ≠ (u8 : Value).ownBlock ∧ some k_ ≠ (u9 : Value).ownBlock ∧ k_ ≠ gb486 ∧ k_ ≠ gb489 ∧ k_ ≠ s_.1 ∧ k_ ≠ s_.2) (.slice Ao37 x490003_2.length co37) x490003_2) ∧ (Kd.R (Kd.int .i64) 3 w' w.heap.size (fun k_ => some k_ ≠ (u9 : Value).ownBlock) u8 x8_2) ∧ (Kd.R (Kd.int .i64) 3 w' w.heap.size (fun k_ => some k_ ≠ (u8 : Value).ownBlock) u9 x9_2) ∧ (w'.heap[gb486]? = some (.cells #[.int .i64 a0_0, .int .i64 a0_1, .int .i64 a0_2, .int .i64 a0_3] 23 (0, 0))) ∧ (w'.heap[gb489]? = some (.cells #[.int .i64 x490000_2, .int .i64 x490001_2, .slice Ao36 x490002_2.length co36, .slice Ao37 x490003_2.length co37] 27 (0, 0))) ∧ (w'.heap[s_.1]? = some (.cells #[.int .i64 0, .int .i64 0, .slice none 0 0, .slice none 0 0] 27 (0, 0))) ∧ (w'.heap[s_.2]? = some (.cells #[.bool false, .int .i64 0, .int .i64 0, .int .i64 0] 32 (0, 0))) ∧ (w.heap.size ≤ s_.1) ∧ (w.heap.size ≤ s_.1) ∧ (gb486 ≠ s_.1) ∧ (s_.1 ≠ gb486) ∧ (gb489 ≠ s_.1) ∧ (s_.1 ≠ gb489) ∧ (s_.2 ≠ s_.1) ∧ (s_.1 ≠ s_.2) ∧ (w.heap.size ≤ s_.2) ∧ (w.heap.size ≤ s_.2) ∧ (gb486 ≠ s_.2) ∧ (s_.2 ≠ gb486) ∧ (gb489 ≠ s_.2) ∧ (s_.2 ≠ gb489) ∧ (Below w.heap.size w w')) ?_ ?_
                 rotate_left
                 ·intro hJ12_13
                  refine join_ (σ := Value × Value) 4 #[true, true, true, true, true, true, true, true, true, true, true, true, false, false, false, false] (fun s_ => [(83, .tuple #[.agg #[.int .i64 t497, .int .i64 t498, s_.1, s_.2], .agg #[.bool t505, .int .i64 t506, .int .i64 t507, .int .i64 t508]]), (74, .tuple #[.agg #[.int .i64 t497, .int .i64 t498, s_.1, s_.2], .agg #[.bool t505, .int .i64 t506, .int .i64 t507, .int .i64 t508]]), (84, .agg #[.int .i64 t497, .int .i64 t498, s_.1, s_.2]), (85, .agg #[.bool t505, .int .i64 t506, .int .i64 t507, .int .i64 t508])]) (fun s_ w' => (w'.cell? ⟨gb486, 0, none⟩ = some (.int .i64 a0_0) ∧ w'.cell? ⟨gb486, 1, none⟩ = some (.int .i64 a0_1) ∧ w'.cell? ⟨gb486, 2, none⟩ = some (.int .i64 a0_2) ∧ w'.cell? ⟨gb486, 3, none⟩ = some (.int .i64 a0_3) ∧ w'.cell? ⟨gb489, 0, none⟩ = some (.int .i64 x490000_2) ∧ w'.cell? ⟨gb489, 1, none⟩ = some (.int .i64 x490001_2) ∧ w'.cell? ⟨gb489, 2, none⟩ = some (.slice Ao36 x490002_2.length co36) ∧ w'.cell? ⟨gb489, 3, none⟩ = some (.slice Ao37 x490003_2.length co37) ∧ w'.cell? (ad495.add ((x10_2).toNat * 2)) = some (.int .i64 ((rd_T45 l1 x10_2).f0)) ∧ w'.cell? ⟨(ad495.add ((x10_2).toNat * 2)).block, (ad495.add ((x10_2).toNat * 2)).off + 1, none⟩ = some (.int .i64 ((rd_T45 l1 x10_2).f1))) ∧ (Kd.V (Kd.int .i64) 3 w' w.heap.size (fun k_ => some k_ ≠ (u8 : Value).ownBlock ∧ some k_ ≠ (u9 : Value).ownBlock ∧ k_ ≠ gb486 ∧ k_ ≠ gb489) s_.1 t499) ∧ (Kd.V k54 54 w' w.heap.size (fun k_ => some k_ ≠ (u8 : Value).ownBlock ∧ some k_ ≠ (u9 : Value).ownBlock ∧ k_ ≠ gb486 ∧ k_ ≠ gb489) s_.2 t502) ∧ (Kd.V (Kd.int .i64) 3 w' w.heap.size (fun k_ => some k_ ≠ (u8 : Value).ownBlock ∧ some k_ ≠ (u9 : Value).ownBlock ∧ k_ ≠ gb486 ∧ k_ ≠ gb489) (.slice Ao36 x490002_2.length co36) x490002_2) ∧ (Kd.V k54 54 w' w.heap.size (fun k_ => some k_ ≠ (u8 : Value).ownBlock ∧ some k_ ≠ (u9 : Value).ownBlock ∧ k_ ≠ gb486 ∧ k_ ≠ gb489) (.slice Ao37 x490003_2.length co37) x490003_2) ∧ (Kd.R (Kd.int .i64) 3 w' w.heap.size (fun k_ => some k_ ≠ (u9 : Value).ownBlock) u8 x8_2) ∧ (Kd.R (Kd.int .i64) 3 w' w.heap.size (fun k_ => some k_ ≠ (u8 : Value).ownBlock) u9 x9_2) ∧ (w'.heap[gb486]? = some (.cells #[.int .i64 a0_0, .int .i64 a0_1, .int .i64 a0_2, .int .i64 a0_3] 23 (0, 0))) ∧ (w'.heap[gb489]? = some (.cells #[.int .i64 x490000_2, .int .i64 x490001_2, .slice Ao36 x490002_2.length co36, .slice Ao37 x490003_2.length co37] 27 (0, 0))) ∧ (Below w.heap.size w w')) ?_ ?_
                  rotate_left
                  ·intro hJ8
                   refine join_ (σ := Nat) 7 #[true, true, true, true, true, true, true, true, false, false, false, false, true, false, false, false] (fun s_ => [(11, .pointer (some ⟨s_, 0, none⟩))]) (fun s_ w' => (w'.cell? ⟨gb486, 0, none⟩ = some (.int .i64 a0_0) ∧ w'.cell? ⟨gb486, 1, none⟩ = some (.int .i64 a0_1) ∧ w'.cell? ⟨gb486, 2, none⟩ = some (.int .i64 a0_2) ∧ w'.cell? ⟨gb486, 3, none⟩ = some (.int .i64 a0_3) ∧ w'.cell? ⟨gb489, 0, none⟩ = some (.int .i64 x490000_2) ∧ w'.cell? ⟨gb489, 1, none⟩ = some (.int .i64 x490001_2) ∧ w'.cell? ⟨gb489, 2, none⟩ = some (.slice Ao36 x490002_2.length co36) ∧ w'.cell? ⟨gb489, 3, none⟩ = some (.slice Ao37 x490003_2.length co37) ∧ w'.cell? (ad495.add ((x10_2).toNat * 2)) = some (.int .i64 ((rd_T45 l1 x10_2).f0)) ∧ w'.cell? ⟨(ad495.add ((x10_2).toNat * 2)).block, (ad495.add ((x10_2).toNat * 2)).off + 1, none⟩ = some (.int .i64 ((rd_T45 l1 x10_2).f1))) ∧ (Kd.V (Kd.int .i64) 3 w' w.heap.size (fun k_ => some k_ ≠ (u8 : Value).ownBlock ∧ some k_ ≠ (u9 : Value).ownBlock ∧ k_ ≠ gb486 ∧ k_ ≠ gb489 ∧ k_ ≠ s_) (.slice Ao36 x490002_2.length co36) x490002_2) ∧ (Kd.V k54 54 w' w.heap.size (fun k_ => some k_ ≠ (u8 : Value).ownBlock ∧ some k_ ≠ (u9 : Value).ownBlock ∧ k_ ≠ gb486 ∧ k_ ≠ gb489 ∧ k_ ≠ s_) (.slice Ao37 x490003_2.length co37) x490003_2) ∧ (Kd.R (Kd.int .i64) 3 w' w.heap.size (fun k_ => some k_ ≠ (u9 : Value).ownBlock) u8 x8_2) ∧ (Kd.R (Kd.int .i64) 3 w' w.heap.size (fun k_ => some k_ ≠ (u8 : Value).ownBlock) u9 x9_2) ∧ (w'.heap[gb486]? = some (.cells #[.int .i64 a0_0, .int .i64 a0_1, .int .i64 a0_2, .int .i64 a0_3] 23 (0, 0))) ∧ (w'.heap[gb489]? = some (.cells #[.int .i64 x490000_2, .int .i64 x490001_2, .slice Ao36 x490002_2.length co36, .slice Ao37 x490003_2.length co37] 27 (0, 0))) ∧ (w'.heap[s_]? = some (.cells #[.int .i64 0, .int .i64 0, .slice none 0 0, .slice none 0 0] 27 (0, 0))) ∧ (w.heap.size ≤ s_) ∧ (w.heap.size ≤ s_) ∧ (gb486 ≠ s_) ∧ (s_ ≠ gb486) ∧ (gb489 ≠ s_) ∧ (s_ ≠ gb489) ∧ (Below w.heap.size w w')) ?_ ?_
                   rotate_left
                   ·intro hJ12
                    refine join_ (σ := Nat) 7 #[true, true, true, true, true, true, true, true, false, false, false, false, false, true, false, false] (fun s_ => [(12, .pointer (some ⟨s_, 0, none⟩))]) (fun s_ w' => (w'.cell? ⟨gb486, 0, none⟩ = some (.int .i64 a0_0) ∧ w'.cell? ⟨gb486, 1, none⟩ = some (.int .i64 a0_1) ∧ w'.cell? ⟨gb486, 2, none⟩ = some (.int .i64 a0_2) ∧ w'.cell? ⟨gb486, 3, none⟩ = some (.int .i64 a0_3) ∧ w'.cell? ⟨gb489, 0, none⟩ = some (.int .i64 x490000_2) ∧ w'.cell? ⟨gb489, 1, none⟩ = some (.int .i64 x490001_2) ∧ w'.cell? ⟨gb489, 2, none⟩ = some (.slice Ao36 x490002_2.length co36) ∧ w'.cell? ⟨gb489, 3, none⟩ = some (.slice Ao37 x490003_2.length co37) ∧ w'.cell? (ad495.add ((x10_2).toNat * 2)) = some (.int .i64 ((rd_T45 l1 x10_2).f0)) ∧ w'.cell? ⟨(ad495.add ((x10_2).toNat * 2)).block, (ad495.add ((x10_2).toNat * 2)).off + 1, none⟩ = some (.int .i64 ((rd_T45 l1 x10_2).f1))) ∧ (Kd.V (Kd.int .i64) 3 w' w.heap.size (fun k_ => some k_ ≠ (u8 : Value).ownBlock ∧ some k_ ≠ (u9 : Value).ownBlock ∧ k_ ≠ gb486 ∧ k_ ≠ gb489 ∧ k_ ≠ s_) (.slice Ao36 x490002_2.length co36) x490002_2) ∧ (Kd.V k54 54 w' w.heap.size (fun k_ => some k_ ≠ (u8 : Value).ownBlock ∧ some k_ ≠ (u9 : Value).ownBlock ∧ k_ ≠ gb486 ∧ k_ ≠ gb489 ∧ k_ ≠ s_) (.slice Ao37 x490003_2.length co37) x490003_2) ∧ (Kd.R (Kd.int .i64) 3 w' w.heap.size (fun k_ => some k_ ≠ (u9 : Value).ownBlock) u8 x8_2) ∧ (Kd.R (Kd.int .i64) 3 w' w.heap.size (fun k_ => some k_ ≠ (u8 : Value).ownBlock) u9 x9_2) ∧ (w'.heap[gb486]? = some (.cells #[.int .i64 a0_0, .int .i64 a0_1, .int .i64 a0_2, .int .i64 a0_3] 23 (0, 0))) ∧ (w'.heap[gb489]? = some (.cells #[.int .i64 x490000_2, .int .i64 x490001_2, .slice Ao36 x490002_2.length co36, .slice Ao37 x490003_2.length co37] 27 (0, 0))) ∧ (w'.heap[s_]? = some (.cells #[.bool false, .int .i64 0, .int .i64 0, .int .i64 0] 32 (0, 0))) ∧ (w.heap.size ≤ s_) ∧ (w.heap.size ≤ s_) ∧ (gb486 ≠ s_) ∧ (s_ ≠ gb486) ∧ (gb489 ≠ s_) ∧ (s_ ≠ gb489) ∧ (Below w.heap.size w w')) ?_ ?_
                    rotate_left
                    ·intro hJ13
                     refine three_ (i := 8) (j := 12) (k := 13) (Ni := some 83) (Nj := some 11) (Nk := some 12) #[true, true, true, true, true, true, true, true, true, false, false, false, false, false, false, false] #[true, true, true, true, true, true, true, true, false, false, false, false, true, false, false, false] #[true, true, true, true, true, true, true, true, false, false, false, false, false, true, false, false] rfl rfl rfl rfl rfl rfl (three_of HT_.out (by kernel_rfl)) (by decide) (by decide) (by decide) (fun K hK => ?_) (fun K hK => ?_) (fun K hK => ?_)
                     ·skip
                      refine goes_ Try.func10 (by kernel_rfl) rfl #[.agg #[.int .i64 a0_0, .int .i64 a0_1, .int .i64 a0_2, .int .i64 a0_3], .agg #[.int .i64 x490000_2, .int .i64 x490001_2, .slice Ao36 x490002_2.length co36, .slice Ao37 x490003_2.length co37], .int .i64 (wrap64 (x6_2 + ((rd_T45 l1 x10_2).f0))), .int .i64 ((rd_T45 l1 x10_2).f1)] (by rfl) rfl rfl (by (try simp only [List.map_toArray, List.map_cons, List.map_nil]); first | done | rfl | (simp only [List.length_drop, List.length_take]; rfl)) ?_
                      with_reducible refine (ring_Ask.calls kj22 a0_0 a0_1 a0_2 a0_3 x490000_2 x490001_2 (fun k_ => (some k_ ≠ (u8 : Value).ownBlock ∧ (some k_ ≠ (u9 : Value).ownBlock ∧ (k_ ≠ gb486 ∧ k_ ≠ gb489)))) _ _ x490002_2 (fun k_ => (some k_ ≠ (u8 : Value).ownBlock ∧ (some k_ ≠ (u9 : Value).ownBlock ∧ (k_ ≠ gb486 ∧ k_ ≠ gb489)))) _ _ x490003_2 (wrap64 (x6_2 + ((rd_T45 l1 x10_2).f0))) ((rd_T45 l1 x10_2).f1) t497 t498 t499 t502 t505 t506 t507 t508 _ ?side1 ?side2 A33.out).mono ?_
                      (case side1 => exact HO_490002.out)
                      (case side2 => exact HO_490003.out)
                      rintro e w39 ⟨v500, v503, rfl, ho0, ho1, hb⟩
                      refine ⟨_, rfl, ?_⟩
                      have HO501 := Aside0.mk (Kd.V_lower (Kd.V_mono (ok' := fun k_ => some k_ ≠ (u8 : Value).ownBlock ∧ some k_ ≠ (u9 : Value).ownBlock ∧ k_ ≠ gb486 ∧ k_ ≠ gb489) ho0 (fun k_ hk_ => ⟨Or.elim hk_ (fun hs_ => Or.elim hs_ (fun hs_ => hs_.1) (fun hs_ => hs_.1)) (fun hn_ => (Kd.fresh' (Kd.R_lt (by (with_reducible repeat (first | apply Kd.R_alloc | apply Kd.R_drewN | apply Kd.R_drew)); exact HO_8.out)) k_ hn_)), Or.elim hk_ (fun hs_ => Or.elim hs_ (fun hs_ => hs_.2.1) (fun hs_ => hs_.2.1)) (fun hn_ => (Kd.fresh' (Kd.R_lt (by (with_reducible repeat (first | apply Kd.R_alloc | apply Kd.R_drewN | apply Kd.R_drew)); exact HO_9.out)) k_ hn_)), Or.elim hk_ (fun hs_ => Or.elim hs_ (fun hs_ => hs_.2.2.1) (fun hs_ => hs_.2.2.1)) (fun hn_ => (Kd.freshB (bo BK486) k_ hn_)), Or.elim hk_ (fun hs_ => Or.elim hs_ (fun hs_ => hs_.2.2.2) (fun hs_ => hs_.2.2.2)) (fun hn_ => (Kd.freshB (bo BK489) k_ hn_))⟩)) (below_size (bl HB)))
                      have HO504 := Aside0.mk (Kd.V_lower (Kd.V_mono (ok' := fun k_ => some k_ ≠ (u8 : Value).ownBlock ∧ some k_ ≠ (u9 : Value).ownBlock ∧ k_ ≠ gb486 ∧ k_ ≠ gb489) ho1 (fun k_ hk_ => ⟨Or.elim hk_ (fun hs_ => Or.elim hs_ (fun hs_ => hs_.1) (fun hs_ => hs_.1)) (fun hn_ => (Kd.fresh' (Kd.R_lt (by (with_reducible repeat (first | apply Kd.R_alloc | apply Kd.R_drewN | apply Kd.R_drew)); exact HO_8.out)) k_ hn_)), Or.elim hk_ (fun hs_ => Or.elim hs_ (fun hs_ => hs_.2.1) (fun hs_ => hs_.2.1)) (fun hn_ => (Kd.fresh' (Kd.R_lt (by (with_reducible repeat (first | apply Kd.R_alloc | apply Kd.R_drewN | apply Kd.R_drew)); exact HO_9.out)) k_ hn_)), Or.elim hk_ (fun hs_ => Or.elim hs_ (fun hs_ => hs_.2.2.1) (fun hs_ => hs_.2.2.1)) (fun hn_ => (Kd.freshB (bo BK486) k_ hn_)), Or.elim hk_ (fun hs_ => Or.elim hs_ (fun hs_ => hs_.2.2.2) (fun hs_ => hs_.2.2.2)) (fun hn_ => (Kd.freshB (bo BK489) k_ hn_))⟩)) (below_size (bl HB)))
                      replace HO_8 := Aside0.mk (Kd.R_below (by (with_reducible repeat (first | apply Kd.R_alloc | apply Kd.R_drewN | apply Kd.R_drew)); exact HO_8.out) hb)
                      replace HO_9 := Aside0.mk (Kd.R_below (by (with_reducible repeat (first | apply Kd.R_alloc | apply Kd.R_drewN | apply Kd.R_drew)); exact HO_9.out) hb)
                      replace HO_490002 := vb HO_490002 hb
                      replace HO_490003 := vb HO_490003 hb
                      replace BK486 := Aside0.mk (blk_below (bo BK486) hb)
                      replace BK489 := Aside0.mk (blk_below (bo BK489) hb)
                      replace HB := Aside0.mk (below_step (bl HB) hb)
                      (try clear hb)
                      (try clear hb2)
                      (try clear hk)
                      (try clear hi)
                      (try clear ho0)
                      (try clear ho1)
                      refine hK.out _ _ ⟨(blk_cell BK486.out 0).trans rfl, (blk_cell BK486.out 1).trans rfl, (blk_cell BK486.out 2).trans rfl, (blk_cell BK486.out 3).trans rfl, (blk_cell BK489.out 0).trans rfl, (blk_cell BK489.out 1).trans rfl, (blk_cell BK489.out 2).trans rfl, (blk_cell BK489.out 3).trans rfl, ((HB.out.cell (World.block_lt_of_cell? w _ hw496_0)).trans hw496_0), ((HB.out.cell (World.block_lt_of_cell? w _ hw496_1)).trans hw496_1)⟩ (fun hHeld => ?_)
                      clear hK K
                      refine norm_ (a' := ?_) ?_ ?_
                      rotate_left
                      ·show Act.put _ (some 83) _ = _
                       simp only [Act.put, List.setIfInBounds_toArray, List.set_cons_zero, List.set_cons_succ, i64_w, i32_w]
                       rfl
                      refine pureA 9 74 HT_ ?_
                      refine pureA 10 84 HT_ ?_
                      refine pureA 11 85 HT_ ?_
                      exact norm_ (by first | (simp only [putAll, Act.put, List.setIfInBounds_toArray, List.set_cons_zero, List.set_cons_succ]; done) | (simp only [putAll, Act.put, List.setIfInBounds_toArray, List.set_cons_zero, List.set_cons_succ]; rfl)) (hJ8 (v500, v503) _ ⟨hHeld, (by (with_reducible repeat (first | apply Kd.V_alloc | apply Kd.V_drewN | apply Kd.V_drew)); exact HO501.out), (by (with_reducible repeat (first | apply Kd.V_alloc | apply Kd.V_drewN | apply Kd.V_drew)); exact HO504.out), (by (with_reducible repeat (first | apply Kd.V_alloc | apply Kd.V_drewN | apply Kd.V_drew)); exact HO_490002.out), (by (with_reducible repeat (first | apply Kd.V_alloc | apply Kd.V_drewN | apply Kd.V_drew)); exact HO_490003.out), (by (with_reducible repeat (first | apply Kd.R_alloc | apply Kd.R_drewN | apply Kd.R_drew)); exact HO_8.out), (by (with_reducible repeat (first | apply Kd.R_alloc | apply Kd.R_drewN | apply Kd.R_drew)); exact HO_9.out), (bo BK486), (bo BK489), (bl HB)⟩)
                     ·skip
                      refine box_step ?hg (N := 11) ?hd (cs := #[.int .i64 0, .int .i64 0, .slice none 0 0, .slice none 0 0]) (t := 27) ?hr ?_; (case hd => rfl); (case hg => rfl); (case hr => first | (go_simp; done) | (go_simp; rfl))
                      intro gb509 hg w39 hbox hb
                      have BK509 := Aside0.mk (hbox)
                      have GW509 := Aside0.mk ((by rw [hg]; exact (below_size (bl HB)) : w.heap.size ≤ gb509))
                      have GE509 := Aside0.mk ((by rw [hg]; exact (below_size (bl HB)) : w.heap.size ≤ gb509))
                      have NB486_509 := nb BK486 hg
                      have NB509_486 := bn BK486 hg
                      have NB489_509 := nb BK489 hg
                      have NB509_489 := bn BK489 hg
                      replace HO_8 := Aside0.mk (Kd.R_below (by (with_reducible repeat (first | apply Kd.R_alloc | apply Kd.R_drewN | apply Kd.R_drew)); exact HO_8.out) hb)
                      replace HO_9 := Aside0.mk (Kd.R_below (by (with_reducible repeat (first | apply Kd.R_alloc | apply Kd.R_drewN | apply Kd.R_drew)); exact HO_9.out) hb)
                      replace HO_490002 := ve HO_490002 hg hb
                      replace HO_490003 := ve HO_490003 hg hb
                      replace BK486 := Aside0.mk (blk_below (bo BK486) hb)
                      replace BK489 := Aside0.mk (blk_below (bo BK489) hb)
                      replace HB := Aside0.mk (below_step (bl HB) hb)
                      clear hb hbox hg
                      refine hK.out _ _ ⟨(blk_cell BK486.out 0).trans rfl, (blk_cell BK486.out 1).trans rfl, (blk_cell BK486.out 2).trans rfl, (blk_cell BK486.out 3).trans rfl, (blk_cell BK489.out 0).trans rfl, (blk_cell BK489.out 1).trans rfl, (blk_cell BK489.out 2).trans rfl, (blk_cell BK489.out 3).trans rfl, ((HB.out.cell (World.block_lt_of_cell? w _ hw496_0)).trans hw496_0), ((HB.out.cell (World.block_lt_of_cell? w _ hw496_1)).trans hw496_1)⟩ (fun hHeld => ?_)
                      clear hK K
                      refine norm_ (a' := ?_) ?_ ?_
                      rotate_left
                      ·show Act.put _ (some 11) _ = _
                       simp only [Act.put, List.setIfInBounds_toArray, List.set_cons_zero, List.set_cons_succ, i64_w, i32_w]
                       rfl
                      exact norm_ (by first | (simp only [putAll, Act.put, List.setIfInBounds_toArray, List.set_cons_zero, List.set_cons_succ]; done) | (simp only [putAll, Act.put, List.setIfInBounds_toArray, List.set_cons_zero, List.set_cons_succ]; rfl)) (hJ12 (gb509) _ ⟨hHeld, (by (with_reducible repeat (first | apply Kd.V_alloc | apply Kd.V_drewN | apply Kd.V_drew)); exact Kd.V_mono HO_490002.out (fun _ hk => ⟨hk.1.1, ⟨hk.1.2.1, ⟨hk.1.2.2.1, ⟨hk.1.2.2.2, hk.2⟩⟩⟩⟩)), (by (with_reducible repeat (first | apply Kd.V_alloc | apply Kd.V_drewN | apply Kd.V_drew)); exact Kd.V_mono HO_490003.out (fun _ hk => ⟨hk.1.1, ⟨hk.1.2.1, ⟨hk.1.2.2.1, ⟨hk.1.2.2.2, hk.2⟩⟩⟩⟩)), (by (with_reducible repeat (first | apply Kd.R_alloc | apply Kd.R_drewN | apply Kd.R_drew)); exact HO_8.out), (by (with_reducible repeat (first | apply Kd.R_alloc | apply Kd.R_drewN | apply Kd.R_drew)); exact HO_9.out), (bo BK486), (bo BK489), (bo BK509), GW509.out, GE509.out, NB486_509.out, NB509_486.out, NB489_509.out, NB509_489.out, (bl HB)⟩)
                     ·skip
                      refine box_step ?hg (N := 12) ?hd (cs := #[.bool false, .int .i64 0, .int .i64 0, .int .i64 0]) (t := 32) ?hr ?_; (case hd => rfl); (case hg => rfl); (case hr => first | (go_simp; done) | (go_simp; rfl))
                      intro gb510 hg w39 hbox hb
                      have BK510 := Aside0.mk (hbox)
                      have GW510 := Aside0.mk ((by rw [hg]; exact (below_size (bl HB)) : w.heap.size ≤ gb510))
                      have GE510 := Aside0.mk ((by rw [hg]; exact (below_size (bl HB)) : w.heap.size ≤ gb510))
                      have NB486_510 := nb BK486 hg
                      have NB510_486 := bn BK486 hg
                      have NB489_510 := nb BK489 hg
                      have NB510_489 := bn BK489 hg
                      replace HO_8 := Aside0.mk (Kd.R_below (by (with_reducible repeat (first | apply Kd.R_alloc | apply Kd.R_drewN | apply Kd.R_drew)); exact HO_8.out) hb)
                      replace HO_9 := Aside0.mk (Kd.R_below (by (with_reducible repeat (first | apply Kd.R_alloc | apply Kd.R_drewN | apply Kd.R_drew)); exact HO_9.out) hb)
                      replace HO_490002 := ve HO_490002 hg hb
                      replace HO_490003 := ve HO_490003 hg hb
                      replace BK486 := Aside0.mk (blk_below (bo BK486) hb)
                      replace BK489 := Aside0.mk (blk_below (bo BK489) hb)
                      replace HB := Aside0.mk (below_step (bl HB) hb)
                      clear hb hbox hg
                      refine hK.out _ _ ⟨(blk_cell BK486.out 0).trans rfl, (blk_cell BK486.out 1).trans rfl, (blk_cell BK486.out 2).trans rfl, (blk_cell BK486.out 3).trans rfl, (blk_cell BK489.out 0).trans rfl, (blk_cell BK489.out 1).trans rfl, (blk_cell BK489.out 2).trans rfl, (blk_cell BK489.out 3).trans rfl, ((HB.out.cell (World.block_lt_of_cell? w _ hw496_0)).trans hw496_0), ((HB.out.cell (World.block_lt_of_cell? w _ hw496_1)).trans hw496_1)⟩ (fun hHeld => ?_)
                      clear hK K
                      refine norm_ (a' := ?_) ?_ ?_
                      rotate_left
                      ·show Act.put _ (some 12) _ = _
                       simp only [Act.put, List.setIfInBounds_toArray, List.set_cons_zero, List.set_cons_succ, i64_w, i32_w]
                       rfl
                      exact norm_ (by first | (simp only [putAll, Act.put, List.setIfInBounds_toArray, List.set_cons_zero, List.set_cons_succ]; done) | (simp only [putAll, Act.put, List.setIfInBounds_toArray, List.set_cons_zero, List.set_cons_succ]; rfl)) (hJ13 (gb510) _ ⟨hHeld, (by (with_reducible repeat (first | apply Kd.V_alloc | apply Kd.V_drewN | apply Kd.V_drew)); exact Kd.V_mono HO_490002.out (fun _ hk => ⟨hk.1.1, ⟨hk.1.2.1, ⟨hk.1.2.2.1, ⟨hk.1.2.2.2, hk.2⟩⟩⟩⟩)), (by (with_reducible repeat (first | apply Kd.V_alloc | apply Kd.V_drewN | apply Kd.V_drew)); exact Kd.V_mono HO_490003.out (fun _ hk => ⟨hk.1.1, ⟨hk.1.2.1, ⟨hk.1.2.2.1, ⟨hk.1.2.2.2, hk.2⟩⟩⟩⟩)), (by (with_reducible repeat (first | apply Kd.R_alloc | apply Kd.R_drewN | apply Kd.R_drew)); exact HO_8.out), (by (with_reducible repeat (first | apply Kd.R_alloc | apply Kd.R_drewN | apply Kd.R_drew)); exact HO_9.out), (bo BK486), (bo BK489), (bo BK510), GW510.out, GE510.out, NB486_510.out, NB510_486.out, NB489_510.out, NB510_489.out, (bl HB)⟩)
                    ·skip
                     rintro gb510 w40 ⟨hS_, h0_, h1_, h2_, h3_, h4_, h5_, h6_, h7_, h8_, h9_, h10_, h11_, h12_, h13_⟩
                     have BK510 : Aside0 (w40.heap[gb510]? = some (.cells #[.bool false, .int .i64 0, .int .i64 0, .int .i64 0] 32 (0, 0))) := ⟨h6_⟩
                     have GW510 : Aside0 (w.heap.size ≤ gb510) := ⟨h7_⟩
                     have GE510 : Aside0 (w.heap.size ≤ gb510) := ⟨h8_⟩
                     have NB486_510 : Aside0 (gb486 ≠ gb510) := ⟨h9_⟩
                     have NB510_486 : Aside0 (gb510 ≠ gb486) := ⟨h10_⟩
                     have NB489_510 : Aside0 (gb489 ≠ gb510) := ⟨h11_⟩
                     have NB510_489 : Aside0 (gb510 ≠ gb489) := ⟨h12_⟩
                     replace HO_490002 : Aside0 (Kd.V (Kd.int .i64) 3 w40 w.heap.size (fun k_ => some k_ ≠ (u8 : Value).ownBlock ∧ some k_ ≠ (u9 : Value).ownBlock ∧ k_ ≠ gb486 ∧ k_ ≠ gb489 ∧ k_ ≠ gb510) (.slice Ao36 x490002_2.length co36) x490002_2) := ⟨h0_⟩
                     replace HO_490003 : Aside0 (Kd.V k54 54 w40 w.heap.size (fun k_ => some k_ ≠ (u8 : Value).ownBlock ∧ some k_ ≠ (u9 : Value).ownBlock ∧ k_ ≠ gb486 ∧ k_ ≠ gb489 ∧ k_ ≠ gb510) (.slice Ao37 x490003_2.length co37) x490003_2) := ⟨h1_⟩
                     replace HO_8 : Aside0 (Kd.R (Kd.int .i64) 3 w40 w.heap.size (fun k_ => some k_ ≠ (u9 : Value).ownBlock) u8 x8_2) := ⟨h2_⟩
                     replace HO_9 : Aside0 (Kd.R (Kd.int .i64) 3 w40 w.heap.size (fun k_ => some k_ ≠ (u8 : Value).ownBlock) u9 x9_2) := ⟨h3_⟩
                     replace BK486 : Aside0 (w40.heap[gb486]? = some (.cells #[.int .i64 a0_0, .int .i64 a0_1, .int .i64 a0_2, .int .i64 a0_3] 23 (0, 0))) := ⟨h4_⟩
                     replace BK489 : Aside0 (w40.heap[gb489]? = some (.cells #[.int .i64 x490000_2, .int .i64 x490001_2, .slice Ao36 x490002_2.length co36, .slice Ao37 x490003_2.length co37] 27 (0, 0))) := ⟨h5_⟩
                     replace HB : Aside0 (Below w.heap.size w w40) := ⟨h13_⟩
                     clear h0_ h1_ h2_ h3_ h4_ h5_ h6_ h7_ h8_ h9_ h10_ h11_ h12_ h13_
                     have hHeld : w40.cell? ⟨gb486, 0, none⟩ = some (.int .i64 a0_0) ∧ w40.cell? ⟨gb486, 1, none⟩ = some (.int .i64 a0_1) ∧ w40.cell? ⟨gb486, 2, none⟩ = some (.int .i64 a0_2) ∧ w40.cell? ⟨gb486, 3, none⟩ = some (.int .i64 a0_3) ∧ w40.cell? ⟨gb489, 0, none⟩ = some (.int .i64 x490000_2) ∧ w40.cell? ⟨gb489, 1, none⟩ = some (.int .i64 x490001_2) ∧ w40.cell? ⟨gb489, 2, none⟩ = some (.slice Ao36 x490002_2.length co36) ∧ w40.cell? ⟨gb489, 3, none⟩ = some (.slice Ao37 x490003_2.length co37) ∧ w40.cell? (ad495.add ((x10_2).toNat * 2)) = some (.int .i64 ((rd_T45 l1 x10_2).f0)) ∧ w40.cell? ⟨(ad495.add ((x10_2).toNat * 2)).block, (ad495.add ((x10_2).toNat * 2)).off + 1, none⟩ = some (.int .i64 ((rd_T45 l1 x10_2).f1)) := hS_
                     refine norm_ (a' := ?_) ?_ ?_
                     rotate_left
                     ·simp only [putAll, Act.put, List.setIfInBounds_toArray, List.set_cons_zero, List.set_cons_succ]
                      rfl
                     refine two_ (i := 8) (j := 12) (Ni := some 83) (Nj := some 11) #[true, true, true, true, true, true, true, true, true, false, false, false, false, true, false, false] #[true, true, true, true, true, true, true, true, false, false, false, false, true, true, false, false] rfl rfl rfl rfl (two_of HT_.out (by kernel_rfl)) (by decide) (by decide) (fun K hK => ?_) (fun K hK => ?_)
                     ·skip
                      refine goes_ Try.func10 (by kernel_rfl) rfl #[.agg #[.int .i64 a0_0, .int .i64 a0_1, .int .i64 a0_2, .int .i64 a0_3], .agg #[.int .i64 x490000_2, .int .i64 x490001_2, .slice Ao36 x490002_2.length co36, .slice Ao37 x490003_2.length co37], .int .i64 (wrap64 (x6_2 + ((rd_T45 l1 x10_2).f0))), .int .i64 ((rd_T45 l1 x10_2).f1)] (by rfl) rfl rfl (by (try simp only [List.map_toArray, List.map_cons, List.map_nil]); first | done | rfl | (simp only [List.length_drop, List.length_take]; rfl)) ?_
                      with_reducible refine (ring_Ask.calls kj22 a0_0 a0_1 a0_2 a0_3 x490000_2 x490001_2 (fun k_ => (some k_ ≠ (u8 : Value).ownBlock ∧ (some k_ ≠ (u9 : Value).ownBlock ∧ (k_ ≠ gb486 ∧ (k_ ≠ gb489 ∧ k_ ≠ gb510))))) _ _ x490002_2 (fun k_ => (some k_ ≠ (u8 : Value).ownBlock ∧ (some k_ ≠ (u9 : Value).ownBlock ∧ (k_ ≠ gb486 ∧ (k_ ≠ gb489 ∧ k_ ≠ gb510))))) _ _ x490003_2 (wrap64 (x6_2 + ((rd_T45 l1 x10_2).f0))) ((rd_T45 l1 x10_2).f1) t497 t498 t499 t502 t505 t506 t507 t508 _ ?side1 ?side2 A33.out).mono ?_
                      (case side1 => exact HO_490002.out)
                      (case side2 => exact HO_490003.out)
                      rintro e w41 ⟨v500, v503, rfl, ho0, ho1, hb⟩
                      refine ⟨_, rfl, ?_⟩
                      have HO501 := Aside0.mk (Kd.V_lower (Kd.V_mono (ok' := fun k_ => some k_ ≠ (u8 : Value).ownBlock ∧ some k_ ≠ (u9 : Value).ownBlock ∧ k_ ≠ gb486 ∧ k_ ≠ gb489 ∧ k_ ≠ gb510) ho0 (fun k_ hk_ => ⟨Or.elim hk_ (fun hs_ => Or.elim hs_ (fun hs_ => hs_.1) (fun hs_ => hs_.1)) (fun hn_ => (Kd.fresh' (Kd.R_lt (by (with_reducible repeat (first | apply Kd.R_alloc | apply Kd.R_drewN | apply Kd.R_drew)); exact HO_8.out)) k_ hn_)), Or.elim hk_ (fun hs_ => Or.elim hs_ (fun hs_ => hs_.2.1) (fun hs_ => hs_.2.1)) (fun hn_ => (Kd.fresh' (Kd.R_lt (by (with_reducible repeat (first | apply Kd.R_alloc | apply Kd.R_drewN | apply Kd.R_drew)); exact HO_9.out)) k_ hn_)), Or.elim hk_ (fun hs_ => Or.elim hs_ (fun hs_ => hs_.2.2.1) (fun hs_ => hs_.2.2.1)) (fun hn_ => (Kd.freshB (bo BK486) k_ hn_)), Or.elim hk_ (fun hs_ => Or.elim hs_ (fun hs_ => hs_.2.2.2.1) (fun hs_ => hs_.2.2.2.1)) (fun hn_ => (Kd.freshB (bo BK489) k_ hn_)), Or.elim hk_ (fun hs_ => Or.elim hs_ (fun hs_ => hs_.2.2.2.2) (fun hs_ => hs_.2.2.2.2)) (fun hn_ => (Kd.freshB (bo BK510) k_ hn_))⟩)) (below_size (bl HB)))
                      have HO504 := Aside0.mk (Kd.V_lower (Kd.V_mono (ok' := fun k_ => some k_ ≠ (u8 : Value).ownBlock ∧ some k_ ≠ (u9 : Value).ownBlock ∧ k_ ≠ gb486 ∧ k_ ≠ gb489 ∧ k_ ≠ gb510) ho1 (fun k_ hk_ => ⟨Or.elim hk_ (fun hs_ => Or.elim hs_ (fun hs_ => hs_.1) (fun hs_ => hs_.1)) (fun hn_ => (Kd.fresh' (Kd.R_lt (by (with_reducible repeat (first | apply Kd.R_alloc | apply Kd.R_drewN | apply Kd.R_drew)); exact HO_8.out)) k_ hn_)), Or.elim hk_ (fun hs_ => Or.elim hs_ (fun hs_ => hs_.2.1) (fun hs_ => hs_.2.1)) (fun hn_ => (Kd.fresh' (Kd.R_lt (by (with_reducible repeat (first | apply Kd.R_alloc | apply Kd.R_drewN | apply Kd.R_drew)); exact HO_9.out)) k_ hn_)), Or.elim hk_ (fun hs_ => Or.elim hs_ (fun hs_ => hs_.2.2.1) (fun hs_ => hs_.2.2.1)) (fun hn_ => (Kd.freshB (bo BK486) k_ hn_)), Or.elim hk_ (fun hs_ => Or.elim hs_ (fun hs_ => hs_.2.2.2.1) (fun hs_ => hs_.2.2.2.1)) (fun hn_ => (Kd.freshB (bo BK489) k_ hn_)), Or.elim hk_ (fun hs_ => Or.elim hs_ (fun hs_ => hs_.2.2.2.2) (fun hs_ => hs_.2.2.2.2)) (fun hn_ => (Kd.freshB (bo BK510) k_ hn_))⟩)) (below_size (bl HB)))
                      replace HO_8 := Aside0.mk (Kd.R_below (by (with_reducible repeat (first | apply Kd.R_alloc | apply Kd.R_drewN | apply Kd.R_drew)); exact HO_8.out) hb)
                      replace HO_9 := Aside0.mk (Kd.R_below (by (with_reducible repeat (first | apply Kd.R_alloc | apply Kd.R_drewN | apply Kd.R_drew)); exact HO_9.out) hb)
                      replace HO_490002 := vb HO_490002 hb
                      replace HO_490003 := vb HO_490003 hb
                      replace BK486 := Aside0.mk (blk_below (bo BK486) hb)
                      replace BK489 := Aside0.mk (blk_below (bo BK489) hb)
                      replace BK510 := Aside0.mk (blk_below (bo BK510) hb)
                      replace HB := Aside0.mk (below_step (bl HB) hb)
                      (try clear hb)
                      (try clear hb2)
                      (try clear hk)
                      (try clear hi)
                      (try clear ho0)
                      (try clear ho1)
                      refine hK.out _ _ ⟨(blk_cell BK486.out 0).trans rfl, (blk_cell BK486.out 1).trans rfl, (blk_cell BK486.out 2).trans rfl, (blk_cell BK486.out 3).trans rfl, (blk_cell BK489.out 0).trans rfl, (blk_cell BK489.out 1).trans rfl, (blk_cell BK489.out 2).trans rfl, (blk_cell BK489.out 3).trans rfl, ((HB.out.cell (World.block_lt_of_cell? w _ hw496_0)).trans hw496_0), ((HB.out.cell (World.block_lt_of_cell? w _ hw496_1)).trans hw496_1)⟩ (fun hHeld => ?_)
                      clear hK K
                      refine norm_ (a' := ?_) ?_ ?_
                      rotate_left
                      ·show Act.put _ (some 83) _ = _
                       simp only [Act.put, List.setIfInBounds_toArray, List.set_cons_zero, List.set_cons_succ, i64_w, i32_w]
                       rfl
                      refine pureA 9 74 HT_ ?_
                      refine pureA 10 84 HT_ ?_
                      refine pureA 11 85 HT_ ?_
                      exact norm_ (by first | (simp only [putAll, Act.put, List.setIfInBounds_toArray, List.set_cons_zero, List.set_cons_succ]; done) | (simp only [putAll, Act.put, List.setIfInBounds_toArray, List.set_cons_zero, List.set_cons_succ]; rfl)) (hJ8_13 (v500, v503, gb510) _ ⟨hHeld, (by (with_reducible repeat (first | apply Kd.V_alloc | apply Kd.V_drewN | apply Kd.V_drew)); exact HO501.out), (by (with_reducible repeat (first | apply Kd.V_alloc | apply Kd.V_drewN | apply Kd.V_drew)); exact HO504.out), (by (with_reducible repeat (first | apply Kd.V_alloc | apply Kd.V_drewN | apply Kd.V_drew)); exact HO_490002.out), (by (with_reducible repeat (first | apply Kd.V_alloc | apply Kd.V_drewN | apply Kd.V_drew)); exact HO_490003.out), (by (with_reducible repeat (first | apply Kd.R_alloc | apply Kd.R_drewN | apply Kd.R_drew)); exact HO_8.out), (by (with_reducible repeat (first | apply Kd.R_alloc | apply Kd.R_drewN | apply Kd.R_drew)); exact HO_9.out), (bo BK486), (bo BK489), (bo BK510), GW510.out, GE510.out, NB486_510.out, NB510_486.out, NB489_510.out, NB510_489.out, (bl HB)⟩)
                     ·skip
                      refine box_step ?hg (N := 11) ?hd (cs := #[.int .i64 0, .int .i64 0, .slice none 0 0, .slice none 0 0]) (t := 27) ?hr ?_; (case hd => rfl); (case hg => rfl); (case hr => first | (go_simp; done) | (go_simp; rfl))
                      intro gb509 hg w41 hbox hb
                      have BK509 := Aside0.mk (hbox)
                      have GW509 := Aside0.mk ((by rw [hg]; exact (below_size (bl HB)) : w.heap.size ≤ gb509))
                      have GE509 := Aside0.mk ((by rw [hg]; exact (below_size (bl HB)) : w.heap.size ≤ gb509))
                      have NB486_509 := nb BK486 hg
                      have NB509_486 := bn BK486 hg
                      have NB489_509 := nb BK489 hg
                      have NB509_489 := bn BK489 hg
                      have NB510_509 := nb BK510 hg
                      have NB509_510 := bn BK510 hg
                      replace HO_8 := Aside0.mk (Kd.R_below (by (with_reducible repeat (first | apply Kd.R_alloc | apply Kd.R_drewN | apply Kd.R_drew)); exact HO_8.out) hb)
                      replace HO_9 := Aside0.mk (Kd.R_below (by (with_reducible repeat (first | apply Kd.R_alloc | apply Kd.R_drewN | apply Kd.R_drew)); exact HO_9.out) hb)
                      replace HO_490002 := ve HO_490002 hg hb
                      replace HO_490003 := ve HO_490003 hg hb
                      replace BK486 := Aside0.mk (blk_below (bo BK486) hb)
                      replace BK489 := Aside0.mk (blk_below (bo BK489) hb)
                      replace BK510 := Aside0.mk (blk_below (bo BK510) hb)
                      replace HB := Aside0.mk (below_step (bl HB) hb)
                      clear hb hbox hg
                      refine hK.out _ _ ⟨(blk_cell BK486.out 0).trans rfl, (blk_cell BK486.out 1).trans rfl, (blk_cell BK486.out 2).trans rfl, (blk_cell BK486.out 3).trans rfl, (blk_cell BK489.out 0).trans rfl, (blk_cell BK489.out 1).trans rfl, (blk_cell BK489.out 2).trans rfl, (blk_cell BK489.out 3).trans rfl, ((HB.out.cell (World.block_lt_of_cell? w _ hw496_0)).trans hw496_0), ((HB.out.cell (World.block_lt_of_cell? w _ hw496_1)).trans hw496_1)⟩ (fun hHeld => ?_)
                      clear hK K
                      refine norm_ (a' := ?_) ?_ ?_
                      rotate_left
                      ·show Act.put _ (some 11) _ = _
                       simp only [Act.put, List.setIfInBounds_toArray, List.set_cons_zero, List.set_cons_succ, i64_w, i32_w]
                       rfl
                      exact norm_ (by first | (simp only [putAll, Act.put, List.setIfInBounds_toArray, List.set_cons_zero, List.set_cons_succ]; done) | (simp only [putAll, Act.put, List.setIfInBounds_toArray, List.set_cons_zero, List.set_cons_succ]; rfl)) (hJ12_13 (gb509, gb510) _ ⟨hHeld, (by (with_reducible repeat (first | apply Kd.V_alloc | apply Kd.V_drewN | apply Kd.V_drew)); exact Kd.V_mono HO_490002.out (fun _ hk => ⟨hk.1.1, ⟨hk.1.2.1, ⟨hk.1.2.2.1, ⟨hk.1.2.2.2.1, ⟨hk.2, hk.1.2.2.2.2⟩⟩⟩⟩⟩)), (by (with_reducible repeat (first | apply Kd.V_alloc | apply Kd.V_drewN | apply Kd.V_drew)); exact Kd.V_mono HO_490003.out (fun _ hk => ⟨hk.1.1, ⟨hk.1.2.1, ⟨hk.1.2.2.1, ⟨hk.1.2.2.2.1, ⟨hk.2, hk.1.2.2.2.2⟩⟩⟩⟩⟩)), (by (with_reducible repeat (first | apply Kd.R_alloc | apply Kd.R_drewN | apply Kd.R_drew)); exact HO_8.out), (by (with_reducible repeat (first | apply Kd.R_alloc | apply Kd.R_drewN | apply Kd.R_drew)); exact HO_9.out), (bo BK486), (bo BK489), (bo BK509), (bo BK510), GW509.out, GE509.out, NB486_509.out, NB509_486.out, NB489_509.out, NB509_489.out, NB510_509.out, NB509_510.out, GW510.out, GE510.out, NB486_510.out, NB510_486.out, NB489_510.out, NB510_489.out, (bl HB)⟩)
                   ·skip
                    rintro gb509 w40 ⟨hS_, h0_, h1_, h2_, h3_, h4_, h5_, h6_, h7_, h8_, h9_, h10_, h11_, h12_, h13_⟩
                    have BK509 : Aside0 (w40.heap[gb509]? = some (.cells #[.int .i64 0, .int .i64 0, .slice none 0 0, .slice none 0 0] 27 (0, 0))) := ⟨h6_⟩
                    have GW509 : Aside0 (w.heap.size ≤ gb509) := ⟨h7_⟩
                    have GE509 : Aside0 (w.heap.size ≤ gb509) := ⟨h8_⟩
                    have NB486_509 : Aside0 (gb486 ≠ gb509) := ⟨h9_⟩
                    have NB509_486 : Aside0 (gb509 ≠ gb486) := ⟨h10_⟩
                    have NB489_509 : Aside0 (gb489 ≠ gb509) := ⟨h11_⟩
                    have NB509_489 : Aside0 (gb509 ≠ gb489) := ⟨h12_⟩
                    replace HO_490002 : Aside0 (Kd.V (Kd.int .i64) 3 w40 w.heap.size (fun k_ => some k_ ≠ (u8 : Value).ownBlock ∧ some k_ ≠ (u9 : Value).ownBlock ∧ k_ ≠ gb486 ∧ k_ ≠ gb489 ∧ k_ ≠ gb509) (.slice Ao36 x490002_2.length co36) x490002_2) := ⟨h0_⟩
                    replace HO_490003 : Aside0 (Kd.V k54 54 w40 w.heap.size (fun k_ => some k_ ≠ (u8 : Value).ownBlock ∧ some k_ ≠ (u9 : Value).ownBlock ∧ k_ ≠ gb486 ∧ k_ ≠ gb489 ∧ k_ ≠ gb509) (.slice Ao37 x490003_2.length co37) x490003_2) := ⟨h1_⟩
                    replace HO_8 : Aside0 (Kd.R (Kd.int .i64) 3 w40 w.heap.size (fun k_ => some k_ ≠ (u9 : Value).ownBlock) u8 x8_2) := ⟨h2_⟩
                    replace HO_9 : Aside0 (Kd.R (Kd.int .i64) 3 w40 w.heap.size (fun k_ => some k_ ≠ (u8 : Value).ownBlock) u9 x9_2) := ⟨h3_⟩
                    replace BK486 : Aside0 (w40.heap[gb486]? = some (.cells #[.int .i64 a0_0, .int .i64 a0_1, .int .i64 a0_2, .int .i64 a0_3] 23 (0, 0))) := ⟨h4_⟩
                    replace BK489 : Aside0 (w40.heap[gb489]? = some (.cells #[.int .i64 x490000_2, .int .i64 x490001_2, .slice Ao36 x490002_2.length co36, .slice Ao37 x490003_2.length co37] 27 (0, 0))) := ⟨h5_⟩
                    replace HB : Aside0 (Below w.heap.size w w40) := ⟨h13_⟩
                    clear h0_ h1_ h2_ h3_ h4_ h5_ h6_ h7_ h8_ h9_ h10_ h11_ h12_ h13_
                    have hHeld : w40.cell? ⟨gb486, 0, none⟩ = some (.int .i64 a0_0) ∧ w40.cell? ⟨gb486, 1, none⟩ = some (.int .i64 a0_1) ∧ w40.cell? ⟨gb486, 2, none⟩ = some (.int .i64 a0_2) ∧ w40.cell? ⟨gb486, 3, none⟩ = some (.int .i64 a0_3) ∧ w40.cell? ⟨gb489, 0, none⟩ = some (.int .i64 x490000_2) ∧ w40.cell? ⟨gb489, 1, none⟩ = some (.int .i64 x490001_2) ∧ w40.cell? ⟨gb489, 2, none⟩ = some (.slice Ao36 x490002_2.length co36) ∧ w40.cell? ⟨gb489, 3, none⟩ = some (.slice Ao37 x490003_2.length co37) ∧ w40.cell? (ad495.add ((x10_2).toNat * 2)) = some (.int .i64 ((rd_T45 l1 x10_2).f0)) ∧ w40.cell? ⟨(ad495.add ((x10_2).toNat * 2)).block, (ad495.add ((x10_2).toNat * 2)).off + 1, none⟩ = some (.int .i64 ((rd_T45 l1 x10_2).f1)) := hS_
                    refine norm_ (a' := ?_) ?_ ?_
                    rotate_left
                    ·simp only [putAll, Act.put, List.setIfInBounds_toArray, List.set_cons_zero, List.set_cons_succ]
                     rfl
                    refine two_ (i := 8) (j := 13) (Ni := some 83) (Nj := some 12) #[true, true, true, true, true, true, true, true, true, false, false, false, true, false, false, false] #[true, true, true, true, true, true, true, true, false, false, false, false, true, true, false, false] rfl rfl rfl rfl (two_of HT_.out (by kernel_rfl)) (by decide) (by decide) (fun K hK => ?_) (fun K hK => ?_)
                    ·skip
                     refine goes_ Try.func10 (by kernel_rfl) rfl #[.agg #[.int .i64 a0_0, .int .i64 a0_1, .int .i64 a0_2, .int .i64 a0_3], .agg #[.int .i64 x490000_2, .int .i64 x490001_2, .slice Ao36 x490002_2.length co36, .slice Ao37 x490003_2.length co37], .int .i64 (wrap64 (x6_2 + ((rd_T45 l1 x10_2).f0))), .int .i64 ((rd_T45 l1 x10_2).f1)] (by rfl) rfl rfl (by (try simp only [List.map_toArray, List.map_cons, List.map_nil]); first | done | rfl | (simp only [List.length_drop, List.length_take]; rfl)) ?_
                     with_reducible refine (ring_Ask.calls kj22 a0_0 a0_1 a0_2 a0_3 x490000_2 x490001_2 (fun k_ => (some k_ ≠ (u8 : Value).ownBlock ∧ (some k_ ≠ (u9 : Value).ownBlock ∧ (k_ ≠ gb486 ∧ (k_ ≠ gb489 ∧ k_ ≠ gb509))))) _ _ x490002_2 (fun k_ => (some k_ ≠ (u8 : Value).ownBlock ∧ (some k_ ≠ (u9 : Value).ownBlock ∧ (k_ ≠ gb486 ∧ (k_ ≠ gb489 ∧ k_ ≠ gb509))))) _ _ x490003_2 (wrap64 (x6_2 + ((rd_T45 l1 x10_2).f0))) ((rd_T45 l1 x10_2).f1) t497 t498 t499 t502 t505 t506 t507 t508 _ ?side1 ?side2 A33.out).mono ?_
                     (case side1 => exact HO_490002.out)
                     (case side2 => exact HO_490003.out)
                     rintro e w41 ⟨v500, v503, rfl, ho0, ho1, hb⟩
                     refine ⟨_, rfl, ?_⟩
                     have HO501 := Aside0.mk (Kd.V_lower (Kd.V_mono (ok' := fun k_ => some k_ ≠ (u8 : Value).ownBlock ∧ some k_ ≠ (u9 : Value).ownBlock ∧ k_ ≠ gb486 ∧ k_ ≠ gb489 ∧ k_ ≠ gb509) ho0 (fun k_ hk_ => ⟨Or.elim hk_ (fun hs_ => Or.elim hs_ (fun hs_ => hs_.1) (fun hs_ => hs_.1)) (fun hn_ => (Kd.fresh' (Kd.R_lt (by (with_reducible repeat (first | apply Kd.R_alloc | apply Kd.R_drewN | apply Kd.R_drew)); exact HO_8.out)) k_ hn_)), Or.elim hk_ (fun hs_ => Or.elim hs_ (fun hs_ => hs_.2.1) (fun hs_ => hs_.2.1)) (fun hn_ => (Kd.fresh' (Kd.R_lt (by (with_reducible repeat (first | apply Kd.R_alloc | apply Kd.R_drewN | apply Kd.R_drew)); exact HO_9.out)) k_ hn_)), Or.elim hk_ (fun hs_ => Or.elim hs_ (fun hs_ => hs_.2.2.1) (fun hs_ => hs_.2.2.1)) (fun hn_ => (Kd.freshB (bo BK486) k_ hn_)), Or.elim hk_ (fun hs_ => Or.elim hs_ (fun hs_ => hs_.2.2.2.1) (fun hs_ => hs_.2.2.2.1)) (fun hn_ => (Kd.freshB (bo BK489) k_ hn_)), Or.elim hk_ (fun hs_ => Or.elim hs_ (fun hs_ => hs_.2.2.2.2) (fun hs_ => hs_.2.2.2.2)) (fun hn_ => (Kd.freshB (bo BK509) k_ hn_))⟩)) (below_size (bl HB)))
                     have HO504 := Aside0.mk (Kd.V_lower (Kd.V_mono (ok' := fun k_ => some k_ ≠ (u8 : Value).ownBlock ∧ some k_ ≠ (u9 : Value).ownBlock ∧ k_ ≠ gb486 ∧ k_ ≠ gb489 ∧ k_ ≠ gb509) ho1 (fun k_ hk_ => ⟨Or.elim hk_ (fun hs_ => Or.elim hs_ (fun hs_ => hs_.1) (fun hs_ => hs_.1)) (fun hn_ => (Kd.fresh' (Kd.R_lt (by (with_reducible repeat (first | apply Kd.R_alloc | apply Kd.R_drewN | apply Kd.R_drew)); exact HO_8.out)) k_ hn_)), Or.elim hk_ (fun hs_ => Or.elim hs_ (fun hs_ => hs_.2.1) (fun hs_ => hs_.2.1)) (fun hn_ => (Kd.fresh' (Kd.R_lt (by (with_reducible repeat (first | apply Kd.R_alloc | apply Kd.R_drewN | apply Kd.R_drew)); exact HO_9.out)) k_ hn_)), Or.elim hk_ (fun hs_ => Or.elim hs_ (fun hs_ => hs_.2.2.1) (fun hs_ => hs_.2.2.1)) (fun hn_ => (Kd.freshB (bo BK486) k_ hn_)), Or.elim hk_ (fun hs_ => Or.elim hs_ (fun hs_ => hs_.2.2.2.1) (fun hs_ => hs_.2.2.2.1)) (fun hn_ => (Kd.freshB (bo BK489) k_ hn_)), Or.elim hk_ (fun hs_ => Or.elim hs_ (fun hs_ => hs_.2.2.2.2) (fun hs_ => hs_.2.2.2.2)) (fun hn_ => (Kd.freshB (bo BK509) k_ hn_))⟩)) (below_size (bl HB)))
                     replace HO_8 := Aside0.mk (Kd.R_below (by (with_reducible repeat (first | apply Kd.R_alloc | apply Kd.R_drewN | apply Kd.R_drew)); exact HO_8.out) hb)
                     replace HO_9 := Aside0.mk (Kd.R_below (by (with_reducible repeat (first | apply Kd.R_alloc | apply Kd.R_drewN | apply Kd.R_drew)); exact HO_9.out) hb)
                     replace HO_490002 := vb HO_490002 hb
                     replace HO_490003 := vb HO_490003 hb
                     replace BK486 := Aside0.mk (blk_below (bo BK486) hb)
                     replace BK489 := Aside0.mk (blk_below (bo BK489) hb)
                     replace BK509 := Aside0.mk (blk_below (bo BK509) hb)
                     replace HB := Aside0.mk (below_step (bl HB) hb)
                     (try clear hb)
                     (try clear hb2)
                     (try clear hk)
                     (try clear hi)
                     (try clear ho0)
                     (try clear ho1)
                     refine hK.out _ _ ⟨(blk_cell BK486.out 0).trans rfl, (blk_cell BK486.out 1).trans rfl, (blk_cell BK486.out 2).trans rfl, (blk_cell BK486.out 3).trans rfl, (blk_cell BK489.out 0).trans rfl, (blk_cell BK489.out 1).trans rfl, (blk_cell BK489.out 2).trans rfl, (blk_cell BK489.out 3).trans rfl, ((HB.out.cell (World.block_lt_of_cell? w _ hw496_0)).trans hw496_0), ((HB.out.cell (World.block_lt_of_cell? w _ hw496_1)).trans hw496_1)⟩ (fun hHeld => ?_)
                     clear hK K
                     refine norm_ (a' := ?_) ?_ ?_
                     rotate_left
                     ·show Act.put _ (some 83) _ = _
                      simp only [Act.put, List.setIfInBounds_toArray, List.set_cons_zero, List.set_cons_succ, i64_w, i32_w]
                      rfl
                     refine pureA 9 74 HT_ ?_
                     refine pureA 10 84 HT_ ?_
                     refine pureA 11 85 HT_ ?_
                     exact norm_ (by first | (simp only [putAll, Act.put, List.setIfInBounds_toArray, List.set_cons_zero, List.set_cons_succ]; done) | (simp only [putAll, Act.put, List.setIfInBounds_toArray, List.set_cons_zero, List.set_cons_succ]; rfl)) (hJ8_12 (v500, v503, gb509) _ ⟨hHeld, (by (with_reducible repeat (first | apply Kd.V_alloc | apply Kd.V_drewN | apply Kd.V_drew)); exact HO501.out), (by (with_reducible repeat (first | apply Kd.V_alloc | apply Kd.V_drewN | apply Kd.V_drew)); exact HO504.out), (by (with_reducible repeat (first | apply Kd.V_alloc | apply Kd.V_drewN | apply Kd.V_drew)); exact HO_490002.out), (by (with_reducible repeat (first | apply Kd.V_alloc | apply Kd.V_drewN | apply Kd.V_drew)); exact HO_490003.out), (by (with_reducible repeat (first | apply Kd.R_alloc | apply Kd.R_drewN | apply Kd.R_drew)); exact HO_8.out), (by (with_reducible repeat (first | apply Kd.R_alloc | apply Kd.R_drewN | apply Kd.R_drew)); exact HO_9.out), (bo BK486), (bo BK489), (bo BK509), GW509.out, GE509.out, NB486_509.out, NB509_486.out, NB489_509.out, NB509_489.out, (bl HB)⟩)
                    ·skip
                     refine box_step ?hg (N := 12) ?hd (cs := #[.bool false, .int .i64 0, .int .i64 0, .int .i64 0]) (t := 32) ?hr ?_; (case hd => rfl); (case hg => rfl); (case hr => first | (go_simp; done) | (go_simp; rfl))
                     intro gb510 hg w41 hbox hb
                     have BK510 := Aside0.mk (hbox)
                     have GW510 := Aside0.mk ((by rw [hg]; exact (below_size (bl HB)) : w.heap.size ≤ gb510))
                     have GE510 := Aside0.mk ((by rw [hg]; exact (below_size (bl HB)) : w.heap.size ≤ gb510))
                     have NB486_510 := nb BK486 hg
                     have NB510_486 := bn BK486 hg
                     have NB489_510 := nb BK489 hg
                     have NB510_489 := bn BK489 hg
                     have NB509_510 := nb BK509 hg
                     have NB510_509 := bn BK509 hg
                     replace HO_8 := Aside0.mk (Kd.R_below (by (with_reducible repeat (first | apply Kd.R_alloc | apply Kd.R_drewN | apply Kd.R_drew)); exact HO_8.out) hb)
                     replace HO_9 := Aside0.mk (Kd.R_below (by (with_reducible repeat (first | apply Kd.R_alloc | apply Kd.R_drewN | apply Kd.R_drew)); exact HO_9.out) hb)
                     replace HO_490002 := ve HO_490002 hg hb
                     replace HO_490003 := ve HO_490003 hg hb
                     replace BK486 := Aside0.mk (blk_below (bo BK486) hb)
                     replace BK489 := Aside0.mk (blk_below (bo BK489) hb)
                     replace BK509 := Aside0.mk (blk_below (bo BK509) hb)
                     replace HB := Aside0.mk (below_step (bl HB) hb)
                     clear hb hbox hg
                     refine hK.out _ _ ⟨(blk_cell BK486.out 0).trans rfl, (blk_cell BK486.out 1).trans rfl, (blk_cell BK486.out 2).trans rfl, (blk_cell BK486.out 3).trans rfl, (blk_cell BK489.out 0).trans rfl, (blk_cell BK489.out 1).trans rfl, (blk_cell BK489.out 2).trans rfl, (blk_cell BK489.out 3).trans rfl, ((HB.out.cell (World.block_lt_of_cell? w _ hw496_0)).trans hw496_0), ((HB.out.cell (World.block_lt_of_cell? w _ hw496_1)).trans hw496_1)⟩ (fun hHeld => ?_)
                     clear hK K
                     refine norm_ (a' := ?_) ?_ ?_
                     rotate_left
                     ·show Act.put _ (some 12) _ = _
                      simp only [Act.put, List.setIfInBounds_toArray, List.set_cons_zero, List.set_cons_succ, i64_w, i32_w]
                      rfl
                     exact norm_ (by first | (simp only [putAll, Act.put, List.setIfInBounds_toArray, List.set_cons_zero, List.set_cons_succ]; done) | (simp only [putAll, Act.put, List.setIfInBounds_toArray, List.set_cons_zero, List.set_cons_succ]; rfl)) (hJ12_13 (gb509, gb510) _ ⟨hHeld, (by (with_reducible repeat (first | apply Kd.V_alloc | apply Kd.V_drewN | apply Kd.V_drew)); exact Kd.V_mono HO_490002.out (fun _ hk => ⟨hk.1.1, ⟨hk.1.2.1, ⟨hk.1.2.2.1, ⟨hk.1.2.2.2.1, ⟨hk.1.2.2.2.2, hk.2⟩⟩⟩⟩⟩)), (by (with_reducible repeat (first | apply Kd.V_alloc | apply Kd.V_drewN | apply Kd.V_drew)); exact Kd.V_mono HO_490003.out (fun _ hk => ⟨hk.1.1, ⟨hk.1.2.1, ⟨hk.1.2.2.1, ⟨hk.1.2.2.2.1, ⟨hk.1.2.2.2.2, hk.2⟩⟩⟩⟩⟩)), (by (with_reducible repeat (first | apply Kd.R_alloc | apply Kd.R_drewN | apply Kd.R_drew)); exact HO_8.out), (by (with_reducible repeat (first | apply Kd.R_alloc | apply Kd.R_drewN | apply Kd.R_drew)); exact HO_9.out), (bo BK486), (bo BK489), (bo BK509), (bo BK510), GW509.out, GE509.out, NB486_509.out, NB509_486.out, NB489_509.out, NB509_489.out, NB510_509.out, NB509_510.out, GW510.out, GE510.out, NB486_510.out, NB510_486.out, NB489_510.out, NB510_489.out, (bl HB)⟩)
                  ·skip
                   rintro ⟨v500, v503⟩ w40 ⟨hS_, h0_, h1_, h2_, h3_, h4_, h5_, h6_, h7_, h8_⟩
                   have HO501 : Aside0 (Kd.V (Kd.int .i64) 3 w40 w.heap.size (fun k_ => some k_ ≠ (u8 : Value).ownBlock ∧ some k_ ≠ (u9 : Value).ownBlock ∧ k_ ≠ gb486 ∧ k_ ≠ gb489) v500 t499) := ⟨h0_⟩
                   have HO504 : Aside0 (Kd.V k54 54 w40 w.heap.size (fun k_ => some k_ ≠ (u8 : Value).ownBlock ∧ some k_ ≠ (u9 : Value).ownBlock ∧ k_ ≠ gb486 ∧ k_ ≠ gb489) v503 t502) := ⟨h1_⟩
                   replace HO_490002 : Aside0 (Kd.V (Kd.int .i64) 3 w40 w.heap.size (fun k_ => some k_ ≠ (u8 : Value).ownBlock ∧ some k_ ≠ (u9 : Value).ownBlock ∧ k_ ≠ gb486 ∧ k_ ≠ gb489) (.slice Ao36 x490002_2.length co36) x490002_2) := ⟨h2_⟩
                   replace HO_490003 : Aside0 (Kd.V k54 54 w40 w.heap.size (fun k_ => some k_ ≠ (u8 : Value).ownBlock ∧ some k_ ≠ (u9 : Value).ownBlock ∧ k_ ≠ gb486 ∧ k_ ≠ gb489) (.slice Ao37 x490003_2.length co37) x490003_2) := ⟨h3_⟩
                   replace HO_8 : Aside0 (Kd.R (Kd.int .i64) 3 w40 w.heap.size (fun k_ => some k_ ≠ (u9 : Value).ownBlock) u8 x8_2) := ⟨h4_⟩
                   replace HO_9 : Aside0 (Kd.R (Kd.int .i64) 3 w40 w.heap.size (fun k_ => some k_ ≠ (u8 : Value).ownBlock) u9 x9_2) := ⟨h5_⟩
                   replace BK486 : Aside0 (w40.heap[gb486]? = some (.cells #[.int .i64 a0_0, .int .i64 a0_1, .int .i64 a0_2, .int .i64 a0_3] 23 (0, 0))) := ⟨h6_⟩
                   replace BK489 : Aside0 (w40.heap[gb489]? = some (.cells #[.int .i64 x490000_2, .int .i64 x490001_2, .slice Ao36 x490002_2.length co36, .slice Ao37 x490003_2.length co37] 27 (0, 0))) := ⟨h7_⟩
                   replace HB : Aside0 (Below w.heap.size w w40) := ⟨h8_⟩
                   clear h0_ h1_ h2_ h3_ h4_ h5_ h6_ h7_ h8_
                   have hHeld : w40.cell? ⟨gb486, 0, none⟩ = some (.int .i64 a0_0) ∧ w40.cell? ⟨gb486, 1, none⟩ = some (.int .i64 a0_1) ∧ w40.cell? ⟨gb486, 2, none⟩ = some (.int .i64 a0_2) ∧ w40.cell? ⟨gb486, 3, none⟩ = some (.int .i64 a0_3) ∧ w40.cell? ⟨gb489, 0, none⟩ = some (.int .i64 x490000_2) ∧ w40.cell? ⟨gb489, 1, none⟩ = some (.int .i64 x490001_2) ∧ w40.cell? ⟨gb489, 2, none⟩ = some (.slice Ao36 x490002_2.length co36) ∧ w40.cell? ⟨gb489, 3, none⟩ = some (.slice Ao37 x490003_2.length co37) ∧ w40.cell? (ad495.add ((x10_2).toNat * 2)) = some (.int .i64 ((rd_T45 l1 x10_2).f0)) ∧ w40.cell? ⟨(ad495.add ((x10_2).toNat * 2)).block, (ad495.add ((x10_2).toNat * 2)).off + 1, none⟩ = some (.int .i64 ((rd_T45 l1 x10_2).f1)) := hS_
                   refine norm_ (a' := ?_) ?_ ?_
                   rotate_left
                   ·simp only [putAll, Act.put, List.setIfInBounds_toArray, List.set_cons_zero, List.set_cons_succ]
                    rfl
                   refine two_ (i := 12) (j := 13) (Ni := some 11) (Nj := some 12) #[true, true, true, true, true, true, true, true, true, true, true, true, true, false, false, false] #[true, true, true, true, true, true, true, true, true, true, true, true, false, true, false, false] rfl rfl rfl rfl (two_of HT_.out (by kernel_rfl)) (by decide) (by decide) (fun K hK => ?_) (fun K hK => ?_)
                   ·skip
                    refine box_step ?hg (N := 11) ?hd (cs := #[.int .i64 0, .int .i64 0, .slice none 0 0, .slice none 0 0]) (t := 27) ?hr ?_; (case hd => rfl); (case hg => rfl); (case hr => first | (go_simp; done) | (go_simp; rfl))
                    intro gb509 hg w41 hbox hb
                    have BK509 := Aside0.mk (hbox)
                    have GW509 := Aside0.mk ((by rw [hg]; exact (below_size (bl HB)) : w.heap.size ≤ gb509))
                    have GE509 := Aside0.mk ((by rw [hg]; exact (below_size (bl HB)) : w.heap.size ≤ gb509))
                    have NB486_509 := nb BK486 hg
                    have NB509_486 := bn BK486 hg
                    have NB489_509 := nb BK489 hg
                    have NB509_489 := bn BK489 hg
                    replace HO_8 := Aside0.mk (Kd.R_below (by (with_reducible repeat (first | apply Kd.R_alloc | apply Kd.R_drewN | apply Kd.R_drew)); exact HO_8.out) hb)
                    replace HO_9 := Aside0.mk (Kd.R_below (by (with_reducible repeat (first | apply Kd.R_alloc | apply Kd.R_drewN | apply Kd.R_drew)); exact HO_9.out) hb)
                    replace HO_490002 := ve HO_490002 hg hb
                    replace HO_490003 := ve HO_490003 hg hb
                    replace HO501 := ve HO501 hg hb
                    replace HO504 := ve HO504 hg hb
                    replace BK486 := Aside0.mk (blk_below (bo BK486) hb)
                    replace BK489 := Aside0.mk (blk_below (bo BK489) hb)
                    replace HB := Aside0.mk (below_step (bl HB) hb)
                    clear hb hbox hg
                    refine hK.out _ _ ⟨(blk_cell BK486.out 0).trans rfl, (blk_cell BK486.out 1).trans rfl, (blk_cell BK486.out 2).trans rfl, (blk_cell BK486.out 3).trans rfl, (blk_cell BK489.out 0).trans rfl, (blk_cell BK489.out 1).trans rfl, (blk_cell BK489.out 2).trans rfl, (blk_cell BK489.out 3).trans rfl, ((HB.out.cell (World.block_lt_of_cell? w _ hw496_0)).trans hw496_0), ((HB.out.cell (World.block_lt_of_cell? w _ hw496_1)).trans hw496_1)⟩ (fun hHeld => ?_)
                    clear hK K
                    refine norm_ (a' := ?_) ?_ ?_
                    rotate_left
                    ·show Act.put _ (some 11) _ = _
                     simp only [Act.put, List.setIfInBounds_toArray, List.set_cons_zero, List.set_cons_succ, i64_w, i32_w]
                     rfl
                    exact norm_ (by first | (simp only [putAll, Act.put, List.setIfInBounds_toArray, List.set_cons_zero, List.set_cons_succ]; done) | (simp only [putAll, Act.put, List.setIfInBounds_toArray, List.set_cons_zero, List.set_cons_succ]; rfl)) (hJ8_12 (v500, v503, gb509) _ ⟨hHeld, (by (with_reducible repeat (first | apply Kd.V_alloc | apply Kd.V_drewN | apply Kd.V_drew)); exact Kd.V_mono HO501.out (fun _ hk => ⟨hk.1.1, ⟨hk.1.2.1, ⟨hk.1.2.2.1, ⟨hk.1.2.2.2, hk.2⟩⟩⟩⟩)), (by (with_reducible repeat (first | apply Kd.V_alloc | apply Kd.V_drewN | apply Kd.V_drew)); exact Kd.V_mono HO504.out (fun _ hk => ⟨hk.1.1, ⟨hk.1.2.1, ⟨hk.1.2.2.1, ⟨hk.1.2.2.2, hk.2⟩⟩⟩⟩)), (by (with_reducible repeat (first | apply Kd.V_alloc | apply Kd.V_drewN | apply Kd.V_drew)); exact Kd.V_mono HO_490002.out (fun _ hk => ⟨hk.1.1, ⟨hk.1.2.1, ⟨hk.1.2.2.1, ⟨hk.1.2.2.2, hk.2⟩⟩⟩⟩)), (by (with_reducible repeat (first | apply Kd.V_alloc | apply Kd.V_drewN | apply Kd.V_drew)); exact Kd.V_mono HO_490003.out (fun _ hk => ⟨hk.1.1, ⟨hk.1.2.1, ⟨hk.1.2.2.1, ⟨hk.1.2.2.2, hk.2⟩⟩⟩⟩)), (by (with_reducible repeat (first | apply Kd.R_alloc | apply Kd.R_drewN | apply Kd.R_drew)); exact HO_8.out), (by (with_reducible repeat (first | apply Kd.R_alloc | apply Kd.R_drewN | apply Kd.R_drew)); exact HO_9.out), (bo BK486), (bo BK489), (bo BK509), GW509.out, GE509.out, NB486_509.out, NB509_486.out, NB489_509.out, NB509_489.out, (bl HB)⟩)
                   ·skip
                    refine box_step ?hg (N := 12) ?hd (cs := #[.bool false, .int .i64 0, .int .i64 0, .int .i64 0]) (t := 32) ?hr ?_; (case hd => rfl); (case hg => rfl); (case hr => first | (go_simp; done) | (go_simp; rfl))
                    intro gb510 hg w41 hbox hb
                    have BK510 := Aside0.mk (hbox)
                    have GW510 := Aside0.mk ((by rw [hg]; exact (below_size (bl HB)) : w.heap.size ≤ gb510))
                    have GE510 := Aside0.mk ((by rw [hg]; exact (below_size (bl HB)) : w.heap.size ≤ gb510))
                    have NB486_510 := nb BK486 hg
                    have NB510_486 := bn BK486 hg
                    have NB489_510 := nb BK489 hg
                    have NB510_489 := bn BK489 hg
                    replace HO_8 := Aside0.mk (Kd.R_below (by (with_reducible repeat (first | apply Kd.R_alloc | apply Kd.R_drewN | apply Kd.R_drew)); exact HO_8.out) hb)
                    replace HO_9 := Aside0.mk (Kd.R_below (by (with_reducible repeat (first | apply Kd.R_alloc | apply Kd.R_drewN | apply Kd.R_drew)); exact HO_9.out) hb)
                    replace HO_490002 := ve HO_490002 hg hb
                    replace HO_490003 := ve HO_490003 hg hb
                    replace HO501 := ve HO501 hg hb
                    replace HO504 := ve HO504 hg hb
                    replace BK486 := Aside0.mk (blk_below (bo BK486) hb)
                    replace BK489 := Aside0.mk (blk_below (bo BK489) hb)
                    replace HB := Aside0.mk (below_step (bl HB) hb)
                    clear hb hbox hg
                    refine hK.out _ _ ⟨(blk_cell BK486.out 0).trans rfl, (blk_cell BK486.out 1).trans rfl, (blk_cell BK486.out 2).trans rfl, (blk_cell BK486.out 3).trans rfl, (blk_cell BK489.out 0).trans rfl, (blk_cell BK489.out 1).trans rfl, (blk_cell BK489.out 2).trans rfl, (blk_cell BK489.out 3).trans rfl, ((HB.out.cell (World.block_lt_of_cell? w _ hw496_0)).trans hw496_0), ((HB.out.cell (World.block_lt_of_cell? w _ hw496_1)).trans hw496_1)⟩ (fun hHeld => ?_)
                    clear hK K
                    refine norm_ (a' := ?_) ?_ ?_
                    rotate_left
                    ·show Act.put _ (some 12) _ = _
                     simp only [Act.put, List.setIfInBounds_toArray, List.set_cons_zero, List.set_cons_succ, i64_w, i32_w]
                     rfl
                    exact norm_ (by first | (simp only [putAll, Act.put, List.setIfInBounds_toArray, List.set_cons_zero, List.set_cons_succ]; done) | (simp only [putAll, Act.put, List.setIfInBounds_toArray, List.set_cons_zero, List.set_cons_succ]; rfl)) (hJ8_13 (v500, v503, gb510) _ ⟨hHeld, (by (with_reducible repeat (first | apply Kd.V_alloc | apply Kd.V_drewN | apply Kd.V_drew)); exact Kd.V_mono HO501.out (fun _ hk => ⟨hk.1.1, ⟨hk.1.2.1, ⟨hk.1.2.2.1, ⟨hk.1.2.2.2, hk.2⟩⟩⟩⟩)), (by (with_reducible repeat (first | apply Kd.V_alloc | apply Kd.V_drewN | apply Kd.V_drew)); exact Kd.V_mono HO504.out (fun _ hk => ⟨hk.1.1, ⟨hk.1.2.1, ⟨hk.1.2.2.1, ⟨hk.1.2.2.2, hk.2⟩⟩⟩⟩)), (by (with_reducible repeat (first | apply Kd.V_alloc | apply Kd.V_drewN | apply Kd.V_drew)); exact Kd.V_mono HO_490002.out (fun _ hk => ⟨hk.1.1, ⟨hk.1.2.1, ⟨hk.1.2.2.1, ⟨hk.1.2.2.2, hk.2⟩⟩⟩⟩)), (by (with_reducible repeat (first | apply Kd.V_alloc | apply Kd.V_drewN | apply Kd.V_drew)); exact Kd.V_mono HO_490003.out (fun _ hk => ⟨hk.1.1, ⟨hk.1.2.1, ⟨hk.1.2.2.1, ⟨hk.1.2.2.2, hk.2⟩⟩⟩⟩)), (by (with_reducible repeat (first | apply Kd.R_alloc | apply Kd.R_drewN | apply Kd.R_drew)); exact HO_8.out), (by (with_reducible repeat (first | apply Kd.R_alloc | apply Kd.R_drewN | apply Kd.R_drew)); exact HO_9.out), (bo BK486), (bo BK489), (bo BK510), GW510.out, GE510.out, NB486_510.out, NB510_486.out, NB489_510.out, NB510_489.out, (bl HB)⟩)
                 ·skip
                  rintro ⟨gb509, gb510⟩ w41 ⟨hS_, h0_, h1_, h2_, h3_, h4_, h5_, h6_, h7_, h8_, h9_, h10_, h11_, h12_, h13_, h14_, h15_, h16_, h17_, h18_, h19_, h20_, h21_, h22_⟩
                  have BK509 : Aside0 (w41.heap[gb509]? = some (.cells #[.int .i64 0, .int .i64 0, .slice none 0 0, .slice none 0 0] 27 (0, 0))) := ⟨h6_⟩
                  have BK510 : Aside0 (w41.heap[gb510]? = some (.cells #[.bool false, .int .i64 0, .int .i64 0, .int .i64 0] 32 (0, 0))) := ⟨h7_⟩
                  have GW509 : Aside0 (w.heap.size ≤ gb509) := ⟨h8_⟩
                  have GE509 : Aside0 (w.heap.size ≤ gb509) := ⟨h9_⟩
                  have NB486_509 : Aside0 (gb486 ≠ gb509) := ⟨h10_⟩
                  have NB509_486 : Aside0 (gb509 ≠ gb486) := ⟨h11_⟩
                  have NB489_509 : Aside0 (gb489 ≠ gb509) := ⟨h12_⟩
                  have NB509_489 : Aside0 (gb509 ≠ gb489) := ⟨h13_⟩
                  have NB510_509 : Aside0 (gb510 ≠ gb509) := ⟨h14_⟩
                  have NB509_510 : Aside0 (gb509 ≠ gb510) := ⟨h15_⟩
                  have GW510 : Aside0 (w.heap.size ≤ gb510) := ⟨h16_⟩
                  have GE510 : Aside0 (w.heap.size ≤ gb510) := ⟨h17_⟩
                  have NB486_510 : Aside0 (gb486 ≠ gb510) := ⟨h18_⟩
                  have NB510_486 : Aside0 (gb510 ≠ gb486) := ⟨h19_⟩
                  have NB489_510 : Aside0 (gb489 ≠ gb510) := ⟨h20_⟩
                  have NB510_489 : Aside0 (gb510 ≠ gb489) := ⟨h21_⟩
                  replace HO_490002 : Aside0 (Kd.V (Kd.int .i64) 3 w41 w.heap.size (fun k_ => some k_ ≠ (u8 : Value).ownBlock ∧ some k_ ≠ (u9 : Value).ownBlock ∧ k_ ≠ gb486 ∧ k_ ≠ gb489 ∧ k_ ≠ gb509 ∧ k_ ≠ gb510) (.slice Ao36 x490002_2.length co36) x490002_2) := ⟨h0_⟩
                  replace HO_490003 : Aside0 (Kd.V k54 54 w41 w.heap.size (fun k_ => some k_ ≠ (u8 : Value).ownBlock ∧ some k_ ≠ (u9 : Value).ownBlock ∧ k_ ≠ gb486 ∧ k_ ≠ gb489 ∧ k_ ≠ gb509 ∧ k_ ≠ gb510) (.slice Ao37 x490003_2.length co37) x490003_2) := ⟨h1_⟩
                  replace HO_8 : Aside0 (Kd.R (Kd.int .i64) 3 w41 w.heap.size (fun k_ => some k_ ≠ (u9 : Value).ownBlock) u8 x8_2) := ⟨h2_⟩
                  replace HO_9 : Aside0 (Kd.R (Kd.int .i64) 3 w41 w.heap.size (fun k_ => some k_ ≠ (u8 : Value).ownBlock) u9 x9_2) := ⟨h3_⟩
                  replace BK486 : Aside0 (w41.heap[gb486]? = some (.cells #[.int .i64 a0_0, .int .i64 a0_1, .int .i64 a0_2, .int .i64 a0_3] 23 (0, 0))) := ⟨h4_⟩
                  replace BK489 : Aside0 (w41.heap[gb489]? = some (.cells #[.int .i64 x490000_2, .int .i64 x490001_2, .slice Ao36 x490002_2.length co36, .slice Ao37 x490003_2.length co37] 27 (0, 0))) := ⟨h5_⟩
                  replace HB : Aside0 (Below w.heap.size w w41) := ⟨h22_⟩
                  clear h0_ h1_ h2_ h3_ h4_ h5_ h6_ h7_ h8_ h9_ h10_ h11_ h12_ h13_ h14_ h15_ h16_ h17_ h18_ h19_ h20_ h21_ h22_
                  have hHeld : w41.cell? ⟨gb486, 0, none⟩ = some (.int .i64 a0_0) ∧ w41.cell? ⟨gb486, 1, none⟩ = some (.int .i64 a0_1) ∧ w41.cell? ⟨gb486, 2, none⟩ = some (.int .i64 a0_2) ∧ w41.cell? ⟨gb486, 3, none⟩ = some (.int .i64 a0_3) ∧ w41.cell? ⟨gb489, 0, none⟩ = some (.int .i64 x490000_2) ∧ w41.cell? ⟨gb489, 1, none⟩ = some (.int .i64 x490001_2) ∧ w41.cell? ⟨gb489, 2, none⟩ = some (.slice Ao36 x490002_2.length co36) ∧ w41.cell? ⟨gb489, 3, none⟩ = some (.slice Ao37 x490003_2.length co37) ∧ w41.cell? (ad495.add ((x10_2).toNat * 2)) = some (.int .i64 ((rd_T45 l1 x10_2).f0)) ∧ w41.cell? ⟨(ad495.add ((x10_2).toNat * 2)).block, (ad495.add ((x10_2).toNat * 2)).off + 1, none⟩ = some (.int .i64 ((rd_T45 l1 x10_2).f1)) := hS_
                  refine norm_ (a' := ?_) ?_ ?_
                  rotate_left
                  ·simp only [putAll, Act.put, List.setIfInBounds_toArray, List.set_cons_zero, List.set_cons_succ]
                   rfl
                  refine one_ (i := 8) (N := some 83) #[true, true, true, true, true, true, true, true, true, false, false, false, true, true, false, false] rfl rfl (one_of HT_.out (by kernel_rfl)) (by decide) (fun K hK => ?_)
                  refine goes_ Try.func10 (by kernel_rfl) rfl #[.agg #[.int .i64 a0_0, .int .i64 a0_1, .int .i64 a0_2, .int .i64 a0_3], .agg #[.int .i64 x490000_2, .int .i64 x490001_2, .slice Ao36 x490002_2.length co36, .slice Ao37 x490003_2.length co37], .int .i64 (wrap64 (x6_2 + ((rd_T45 l1 x10_2).f0))), .int .i64 ((rd_T45 l1 x10_2).f1)] (by rfl) rfl rfl (by (try simp only [List.map_toArray, List.map_cons, List.map_nil]); first | done | rfl | (simp only [List.length_drop, List.length_take]; rfl)) ?_
                  with_reducible refine (ring_Ask.calls kj22 a0_0 a0_1 a0_2 a0_3 x490000_2 x490001_2 (fun k_ => (some k_ ≠ (u8 : Value).ownBlock ∧ (some k_ ≠ (u9 : Value).ownBlock ∧ (k_ ≠ gb486 ∧ (k_ ≠ gb489 ∧ (k_ ≠ gb509 ∧ k_ ≠ gb510)))))) _ _ x490002_2 (fun k_ => (some k_ ≠ (u8 : Value).ownBlock ∧ (some k_ ≠ (u9 : Value).ownBlock ∧ (k_ ≠ gb486 ∧ (k_ ≠ gb489 ∧ (k_ ≠ gb509 ∧ k_ ≠ gb510)))))) _ _ x490003_2 (wrap64 (x6_2 + ((rd_T45 l1 x10_2).f0))) ((rd_T45 l1 x10_2).f1) t497 t498 t499 t502 t505 t506 t507 t508 _ ?side1 ?side2 A33.out).mono ?_
                  (case side1 => exact HO_490002.out)
                  (case side2 => exact HO_490003.out)
                  rintro e w42 ⟨v500, v503, rfl, ho0, ho1, hb⟩
                  refine ⟨_, rfl, ?_⟩
                  have HO501 := Aside0.mk (Kd.V_lower (Kd.V_mono (ok' := fun k_ => some k_ ≠ (u8 : Value).ownBlock ∧ some k_ ≠ (u9 : Value).ownBlock ∧ k_ ≠ gb486 ∧ k_ ≠ gb489 ∧ k_ ≠ gb509 ∧ k_ ≠ gb510) ho0 (fun k_ hk_ => ⟨Or.elim hk_ (fun hs_ => Or.elim hs_ (fun hs_ => hs_.1) (fun hs_ => hs_.1)) (fun hn_ => (Kd.fresh' (Kd.R_lt (by (with_reducible repeat (first | apply Kd.R_alloc | apply Kd.R_drewN | apply Kd.R_drew)); exact HO_8.out)) k_ hn_)), Or.elim hk_ (fun hs_ => Or.elim hs_ (fun hs_ => hs_.2.1) (fun hs_ => hs_.2.1)) (fun hn_ => (Kd.fresh' (Kd.R_lt (by (with_reducible repeat (first | apply Kd.R_alloc | apply Kd.R_drewN | apply Kd.R_drew)); exact HO_9.out)) k_ hn_)), Or.elim hk_ (fun hs_ => Or.elim hs_ (fun hs_ => hs_.2.2.1) (fun hs_ => hs_.2.2.1)) (fun hn_ => (Kd.freshB (bo BK486) k_ hn_)), Or.elim hk_ (fun hs_ => Or.elim hs_ (fun hs_ => hs_.2.2.2.1) (fun hs_ => hs_.2.2.2.1)) (fun hn_ => (Kd.freshB (bo BK489) k_ hn_)), Or.elim hk_ (fun hs_ => Or.elim hs_ (fun hs_ => hs_.2.2.2.2.1) (fun hs_ => hs_.2.2.2.2.1)) (fun hn_ => (Kd.freshB (bo BK509) k_ hn_)), Or.elim hk_ (fun hs_ => Or.elim hs_ (fun hs_ => hs_.2.2.2.2.2) (fun hs_ => hs_.2.2.2.2.2)) (fun hn_ => (Kd.freshB (bo BK510) k_ hn_))⟩)) (below_size (bl HB)))
                  have HO504 := Aside0.mk (Kd.V_lower (Kd.V_mono (ok' := fun k_ => some k_ ≠ (u8 : Value).ownBlock ∧ some k_ ≠ (u9 : Value).ownBlock ∧ k_ ≠ gb486 ∧ k_ ≠ gb489 ∧ k_ ≠ gb509 ∧ k_ ≠ gb510) ho1 (fun k_ hk_ => ⟨Or.elim hk_ (fun hs_ => Or.elim hs_ (fun hs_ => hs_.1) (fun hs_ => hs_.1)) (fun hn_ => (Kd.fresh' (Kd.R_lt (by (with_reducible repeat (first | apply Kd.R_alloc | apply Kd.R_drewN | apply Kd.R_drew)); exact HO_8.out)) k_ hn_)), Or.elim hk_ (fun hs_ => Or.elim hs_ (fun hs_ => hs_.2.1) (fun hs_ => hs_.2.1)) (fun hn_ => (Kd.fresh' (Kd.R_lt (by (with_reducible repeat (first | apply Kd.R_alloc | apply Kd.R_drewN | apply Kd.R_drew)); exact HO_9.out)) k_ hn_)), Or.elim hk_ (fun hs_ => Or.elim hs_ (fun hs_ => hs_.2.2.1) (fun hs_ => hs_.2.2.1)) (fun hn_ => (Kd.freshB (bo BK486) k_ hn_)), Or.elim hk_ (fun hs_ => Or.elim hs_ (fun hs_ => hs_.2.2.2.1) (fun hs_ => hs_.2.2.2.1)) (fun hn_ => (Kd.freshB (bo BK489) k_ hn_)), Or.elim hk_ (fun hs_ => Or.elim hs_ (fun hs_ => hs_.2.2.2.2.1) (fun hs_ => hs_.2.2.2.2.1)) (fun hn_ => (Kd.freshB (bo BK509) k_ hn_)), Or.elim hk_ (fun hs_ => Or.elim hs_ (fun hs_ => hs_.2.2.2.2.2) (fun hs_ => hs_.2.2.2.2.2)) (fun hn_ => (Kd.freshB (bo BK510) k_ hn_))⟩)) (below_size (bl HB)))
                  replace HO_8 := Aside0.mk (Kd.R_below (by (with_reducible repeat (first | apply Kd.R_alloc | apply Kd.R_drewN | apply Kd.R_drew)); exact HO_8.out) hb)
                  replace HO_9 := Aside0.mk (Kd.R_below (by (with_reducible repeat (first | apply Kd.R_alloc | apply Kd.R_drewN | apply Kd.R_drew)); exact HO_9.out) hb)
                  replace HO_490002 := vb HO_490002 hb
                  replace HO_490003 := vb HO_490003 hb
                  replace BK486 := Aside0.mk (blk_below (bo BK486) hb)
                  replace BK489 := Aside0.mk (blk_below (bo BK489) hb)
                  replace BK509 := Aside0.mk (blk_below (bo BK509) hb)
                  replace BK510 := Aside0.mk (blk_below (bo BK510) hb)
                  replace HB := Aside0.mk (below_step (bl HB) hb)
                  (try clear hb)
                  (try clear hb2)
                  (try clear hk)
                  (try clear hi)
                  (try clear ho0)
                  (try clear ho1)
                  refine hK.out _ _ ⟨(blk_cell BK486.out 0).trans rfl, (blk_cell BK486.out 1).trans rfl, (blk_cell BK486.out 2).trans rfl, (blk_cell BK486.out 3).trans rfl, (blk_cell BK489.out 0).trans rfl, (blk_cell BK489.out 1).trans rfl, (blk_cell BK489.out 2).trans rfl, (blk_cell BK489.out 3).trans rfl, ((HB.out.cell (World.block_lt_of_cell? w _ hw496_0)).trans hw496_0), ((HB.out.cell (World.block_lt_of_cell? w _ hw496_1)).trans hw496_1)⟩ (fun hHeld => ?_)
                  clear hK K
                  refine norm_ (a' := ?_) ?_ ?_
                  rotate_left
                  ·show Act.put _ (some 83) _ = _
                   simp only [Act.put, List.setIfInBounds_toArray, List.set_cons_zero, List.set_cons_succ, i64_w, i32_w]
                   rfl
                  refine pureA 9 74 HT_ ?_
                  refine pureA 10 84 HT_ ?_
                  refine pureA 11 85 HT_ ?_
                  exact norm_ (by first | (simp only [putAll, Act.put, List.setIfInBounds_toArray, List.set_cons_zero, List.set_cons_succ]; done) | (simp only [putAll, Act.put, List.setIfInBounds_toArray, List.set_cons_zero, List.set_cons_succ]; rfl)) (hJ8_12_13 (v500, v503, gb509, gb510) _ ⟨hHeld, (by (with_reducible repeat (first | apply Kd.V_alloc | apply Kd.V_drewN | apply Kd.V_drew)); exact HO501.out), (by (with_reducible repeat (first | apply Kd.V_alloc | apply Kd.V_drewN | apply Kd.V_drew)); exact HO504.out), (by (with_reducible repeat (first | apply Kd.V_alloc | apply Kd.V_drewN | apply Kd.V_drew)); exact HO_490002.out), (by (with_reducible repeat (first | apply Kd.V_alloc | apply Kd.V_drewN | apply Kd.V_drew)); exact HO_490003.out), (by (with_reducible repeat (first | apply Kd.R_alloc | apply Kd.R_drewN | apply Kd.R_drew)); exact HO_8.out), (by (with_reducible repeat (first | apply Kd.R_alloc | apply Kd.R_drewN | apply Kd.R_drew)); exact HO_9.out), (bo BK486), (bo BK489), (bo BK509), (bo BK510), GW509.out, GE509.out, NB486_509.out, NB509_486.out, NB489_509.out, NB509_489.out, NB510_509.out, NB509_510.out, GW510.out, GE510.out, NB486_510.out, NB510_486.out, NB489_510.out, NB510_489.out, (bl HB)⟩)
                ·skip
                 rintro ⟨v500, v503, gb510⟩ w41 ⟨hS_, h0_, h1_, h2_, h3_, h4_, h5_, h6_, h7_, h8_, h9_, h10_, h11_, h12_, h13_, h14_, h15_⟩
                 have HO501 : Aside0 (Kd.V (Kd.int .i64) 3 w41 w.heap.size (fun k_ => some k_ ≠ (u8 : Value).ownBlock ∧ some k_ ≠ (u9 : Value).ownBlock ∧ k_ ≠ gb486 ∧ k_ ≠ gb489 ∧ k_ ≠ gb510) v500 t499) := ⟨h0_⟩
                 have HO504 : Aside0 (Kd.V k54 54 w41 w.heap.size (fun k_ => some k_ ≠ (u8 : Value).ownBlock ∧ some k_ ≠ (u9 : Value).ownBlock ∧ k_ ≠ gb486 ∧ k_ ≠ gb489 ∧ k_ ≠ gb510) v503 t502) := ⟨h1_⟩
                 have BK510 : Aside0 (w41.heap[gb510]? = some (.cells #[.bool false, .int .i64 0, .int .i64 0, .int .i64 0] 32 (0, 0))) := ⟨h8_⟩
                 have GW510 : Aside0 (w.heap.size ≤ gb510) := ⟨h9_⟩
                 have GE510 : Aside0 (w.heap.size ≤ gb510) := ⟨h10_⟩
                 have NB486_510 : Aside0 (gb486 ≠ gb510) := ⟨h11_⟩
                 have NB510_486 : Aside0 (gb510 ≠ gb486) := ⟨h12_⟩
                 have NB489_510 : Aside0 (gb489 ≠ gb510) := ⟨h13_⟩
                 have NB510_489 : Aside0 (gb510 ≠ gb489) := ⟨h14_⟩
                 replace HO_490002 : Aside0 (Kd.V (Kd.int .i64) 3 w41 w.heap.size (fun k_ => some k_ ≠ (u8 : Value).ownBlock ∧ some k_ ≠ (u9 : Value).ownBlock ∧ k_ ≠ gb486 ∧ k_ ≠ gb489 ∧ k_ ≠ gb510) (.slice Ao36 x490002_2.length co36) x490002_2) := ⟨h2_⟩
                 replace HO_490003 : Aside0 (Kd.V k54 54 w41 w.heap.size (fun k_ => some k_ ≠ (u8 : Value).ownBlock ∧ some k_ ≠ (u9 : Value).ownBlock ∧ k_ ≠ gb486 ∧ k_ ≠ gb489 ∧ k_ ≠ gb510) (.slice Ao37 x490003_2.length co37) x490003_2) := ⟨h3_⟩
                 replace HO_8 : Aside0 (Kd.R (Kd.int .i64) 3 w41 w.heap.size (fun k_ => some k_ ≠ (u9 : Value).ownBlock) u8 x8_2) := ⟨h4_⟩
                 replace HO_9 : Aside0 (Kd.R (Kd.int .i64) 3 w41 w.heap.size (fun k_ => some k_ ≠ (u8 : Value).ownBlock) u9 x9_2) := ⟨h5_⟩
                 replace BK486 : Aside0 (w41.heap[gb486]? = some (.cells #[.int .i64 a0_0, .int .i64 a0_1, .int .i64 a0_2, .int .i64 a0_3] 23 (0, 0))) := ⟨h6_⟩
                 replace BK489 : Aside0 (w41.heap[gb489]? = some (.cells #[.int .i64 x490000_2, .int .i64 x490001_2, .slice Ao36 x490002_2.length co36, .slice Ao37 x490003_2.length co37] 27 (0, 0))) := ⟨h7_⟩
                 replace HB : Aside0 (Below w.heap.size w w41) := ⟨h15_⟩
                 clear h0_ h1_ h2_ h3_ h4_ h5_ h6_ h7_ h8_ h9_ h10_ h11_ h12_ h13_ h14_ h15_
                 have hHeld : w41.cell? ⟨gb486, 0, none⟩ = some (.int .i64 a0_0) ∧ w41.cell? ⟨gb486, 1, none⟩ = some (.int .i64 a0_1) ∧ w41.cell? ⟨gb486, 2, none⟩ = some (.int .i64 a0_2) ∧ w41.cell? ⟨gb486, 3, none⟩ = some (.int .i64 a0_3) ∧ w41.cell? ⟨gb489, 0, none⟩ = some (.int .i64 x490000_2) ∧ w41.cell? ⟨gb489, 1, none⟩ = some (.int .i64 x490001_2) ∧ w41.cell? ⟨gb489, 2, none⟩ = some (.slice Ao36 x490002_2.length co36) ∧ w41.cell? ⟨gb489, 3, none⟩ = some (.slice Ao37 x490003_2.length co37) ∧ w41.cell? (ad495.add ((x10_2).toNat * 2)) = some (.int .i64 ((rd_T45 l1 x10_2).f0)) ∧ w41.cell? ⟨(ad495.add ((x10_2).toNat * 2)).block, (ad495.add ((x10_2).toNat * 2)).off + 1, none⟩ = some (.int .i64 ((rd_T45 l1 x10_2).f1)) := hS_
                 refine norm_ (a' := ?_) ?_ ?_
                 rotate_left
                 ·simp only [putAll, Act.put, List.setIfInBounds_toArray, List.set_cons_zero, List.set_cons_succ]
                  rfl
                 refine one_ (i := 12) (N := some 11) #[true, true, true, true, true, true, true, true, true, true, true, true, true, true, false, false] rfl rfl (one_of HT_.out (by kernel_rfl)) (by decide) (fun K hK => ?_)
                 refine box_step ?hg (N := 11) ?hd (cs := #[.int .i64 0, .int .i64 0, .slice none 0 0, .slice none 0 0]) (t := 27) ?hr ?_; (case hd => rfl); (case hg => rfl); (case hr => first | (go_simp; done) | (go_simp; rfl))
                 intro gb509 hg w42 hbox hb
                 have BK509 := Aside0.mk (hbox)
                 have GW509 := Aside0.mk ((by rw [hg]; exact (below_size (bl HB)) : w.heap.size ≤ gb509))
                 have GE509 := Aside0.mk ((by rw [hg]; exact (below_size (bl HB)) : w.heap.size ≤ gb509))
                 have NB486_509 := nb BK486 hg
                 have NB509_486 := bn BK486 hg
                 have NB489_509 := nb BK489 hg
                 have NB509_489 := bn BK489 hg
                 have NB510_509 := nb BK510 hg
                 have NB509_510 := bn BK510 hg
                 replace HO_8 := Aside0.mk (Kd.R_below (by (with_reducible repeat (first | apply Kd.R_alloc | apply Kd.R_drewN | apply Kd.R_drew)); exact HO_8.out) hb)
                 replace HO_9 := Aside0.mk (Kd.R_below (by (with_reducible repeat (first | apply Kd.R_alloc | apply Kd.R_drewN | apply Kd.R_drew)); exact HO_9.out) hb)
                 replace HO_490002 := ve HO_490002 hg hb
                 replace HO_490003 := ve HO_490003 hg hb
                 replace HO501 := ve HO501 hg hb
                 replace HO504 := ve HO504 hg hb
                 replace BK486 := Aside0.mk (blk_below (bo BK486) hb)
                 replace BK489 := Aside0.mk (blk_below (bo BK489) hb)
                 replace BK510 := Aside0.mk (blk_below (bo BK510) hb)
                 replace HB := Aside0.mk (below_step (bl HB) hb)
                 clear hb hbox hg
                 refine hK.out _ _ ⟨(blk_cell BK486.out 0).trans rfl, (blk_cell BK486.out 1).trans rfl, (blk_cell BK486.out 2).trans rfl, (blk_cell BK486.out 3).trans rfl, (blk_cell BK489.out 0).trans rfl, (blk_cell BK489.out 1).trans rfl, (blk_cell BK489.out 2).trans rfl, (blk_cell BK489.out 3).trans rfl, ((HB.out.cell (World.block_lt_of_cell? w _ hw496_0)).trans hw496_0), ((HB.out.cell (World.block_lt_of_cell? w _ hw496_1)).trans hw496_1)⟩ (fun hHeld => ?_)
                 clear hK K
                 refine norm_ (a' := ?_) ?_ ?_
                 rotate_left
                 ·show Act.put _ (some 11) _ = _
                  simp only [Act.put, List.setIfInBounds_toArray, List.set_cons_zero, List.set_cons_succ, i64_w, i32_w]
                  rfl
                 exact norm_ (by first | (simp only [putAll, Act.put, List.setIfInBounds_toArray, List.set_cons_zero, List.set_cons_succ]; done) | (simp only [putAll, Act.put, List.setIfInBounds_toArray, List.set_cons_zero, List.set_cons_succ]; rfl)) (hJ8_12_13 (v500, v503, gb509, gb510) _ ⟨hHeld, (by (with_reducible repeat (first | apply Kd.V_alloc | apply Kd.V_drewN | apply Kd.V_drew)); exact Kd.V_mono HO501.out (fun _ hk => ⟨hk.1.1, ⟨hk.1.2.1, ⟨hk.1.2.2.1, ⟨hk.1.2.2.2.1, ⟨hk.2, hk.1.2.2.2.2⟩⟩⟩⟩⟩)), (by (with_reducible repeat (first | apply Kd.V_alloc | apply Kd.V_drewN | apply Kd.V_drew)); exact Kd.V_mono HO504.out (fun _ hk => ⟨hk.1.1, ⟨hk.1.2.1, ⟨hk.1.2.2.1, ⟨hk.1.2.2.2.1, ⟨hk.2, hk.1.2.2.2.2⟩⟩⟩⟩⟩)), (by (with_reducible repeat (first | apply Kd.V_alloc | apply Kd.V_drewN | apply Kd.V_drew)); exact Kd.V_mono HO_490002.out (fun _ hk => ⟨hk.1.1, ⟨hk.1.2.1, ⟨hk.1.2.2.1, ⟨hk.1.2.2.2.1, ⟨hk.2, hk.1.2.2.2.2⟩⟩⟩⟩⟩)), (by (with_reducible repeat (first | apply Kd.V_alloc | apply Kd.V_drewN | apply Kd.V_drew)); exact Kd.V_mono HO_490003.out (fun _ hk => ⟨hk.1.1, ⟨hk.1.2.1, ⟨hk.1.2.2.1, ⟨hk.1.2.2.2.1, ⟨hk.2, hk.1.2.2.2.2⟩⟩⟩⟩⟩)), (by (with_reducible repeat (first | apply Kd.R_alloc | apply Kd.R_drewN | apply Kd.R_drew)); exact HO_8.out), (by (with_reducible repeat (first | apply Kd.R_alloc | apply Kd.R_drewN | apply Kd.R_drew)); exact HO_9.out), (bo BK486), (bo BK489), (bo BK509), (bo BK510), GW509.out, GE509.out, NB486_509.out, NB509_486.out, NB489_509.out, NB509_489.out, NB510_509.out, NB509_510.out, GW510.out, GE510.out, NB486_510.out, NB510_486.out, NB489_510.out, NB510_489.out, (bl HB)⟩)
               ·skip
                rintro ⟨v500, v503, gb509⟩ w41 ⟨hS_, h0_, h1_, h2_, h3_, h4_, h5_, h6_, h7_, h8_, h9_, h10_, h11_, h12_, h13_, h14_, h15_⟩
                have HO501 : Aside0 (Kd.V (Kd.int .i64) 3 w41 w.heap.size (fun k_ => some k_ ≠ (u8 : Value).ownBlock ∧ some k_ ≠ (u9 : Value).ownBlock ∧ k_ ≠ gb486 ∧ k_ ≠ gb489 ∧ k_ ≠ gb509) v500 t499) := ⟨h0_⟩
                have HO504 : Aside0 (Kd.V k54 54 w41 w.heap.size (fun k_ => some k_ ≠ (u8 : Value).ownBlock ∧ some k_ ≠ (u9 : Value).ownBlock ∧ k_ ≠ gb486 ∧ k_ ≠ gb489 ∧ k_ ≠ gb509) v503 t502) := ⟨h1_⟩
                have BK509 : Aside0 (w41.heap[gb509]? = some (.cells #[.int .i64 0, .int .i64 0, .slice none 0 0, .slice none 0 0] 27 (0, 0))) := ⟨h8_⟩
                have GW509 : Aside0 (w.heap.size ≤ gb509) := ⟨h9_⟩
                have GE509 : Aside0 (w.heap.size ≤ gb509) := ⟨h10_⟩
                have NB486_509 : Aside0 (gb486 ≠ gb509) := ⟨h11_⟩
                have NB509_486 : Aside0 (gb509 ≠ gb486) := ⟨h12_⟩
                have NB489_509 : Aside0 (gb489 ≠ gb509) := ⟨h13_⟩
                have NB509_489 : Aside0 (gb509 ≠ gb489) := ⟨h14_⟩
                replace HO_490002 : Aside0 (Kd.V (Kd.int .i64) 3 w41 w.heap.size (fun k_ => some k_ ≠ (u8 : Value).ownBlock ∧ some k_ ≠ (u9 : Value).ownBlock ∧ k_ ≠ gb486 ∧ k_ ≠ gb489 ∧ k_ ≠ gb509) (.slice Ao36 x490002_2.length co36) x490002_2) := ⟨h2_⟩
                replace HO_490003 : Aside0 (Kd.V k54 54 w41 w.heap.size (fun k_ => some k_ ≠ (u8 : Value).ownBlock ∧ some k_ ≠ (u9 : Value).ownBlock ∧ k_ ≠ gb486 ∧ k_ ≠ gb489 ∧ k_ ≠ gb509) (.slice Ao37 x490003_2.length co37) x490003_2) := ⟨h3_⟩
                replace HO_8 : Aside0 (Kd.R (Kd.int .i64) 3 w41 w.heap.size (fun k_ => some k_ ≠ (u9 : Value).ownBlock) u8 x8_2) := ⟨h4_⟩
                replace HO_9 : Aside0 (Kd.R (Kd.int .i64) 3 w41 w.heap.size (fun k_ => some k_ ≠ (u8 : Value).ownBlock) u9 x9_2) := ⟨h5_⟩
                replace BK486 : Aside0 (w41.heap[gb486]? = some (.cells #[.int .i64 a0_0, .int .i64 a0_1, .int .i64 a0_2, .int .i64 a0_3] 23 (0, 0))) := ⟨h6_⟩
                replace BK489 : Aside0 (w41.heap[gb489]? = some (.cells #[.int .i64 x490000_2, .int .i64 x490001_2, .slice Ao36 x490002_2.length co36, .slice Ao37 x490003_2.length co37] 27 (0, 0))) := ⟨h7_⟩
                replace HB : Aside0 (Below w.heap.size w w41) := ⟨h15_⟩
                clear h0_ h1_ h2_ h3_ h4_ h5_ h6_ h7_ h8_ h9_ h10_ h11_ h12_ h13_ h14_ h15_
                have hHeld : w41.cell? ⟨gb486, 0, none⟩ = some (.int .i64 a0_0) ∧ w41.cell? ⟨gb486, 1, none⟩ = some (.int .i64 a0_1) ∧ w41.cell? ⟨gb486, 2, none⟩ = some (.int .i64 a0_2) ∧ w41.cell? ⟨gb486, 3, none⟩ = some (.int .i64 a0_3) ∧ w41.cell? ⟨gb489, 0, none⟩ = some (.int .i64 x490000_2) ∧ w41.cell? ⟨gb489, 1, none⟩ = some (.int .i64 x490001_2) ∧ w41.cell? ⟨gb489, 2, none⟩ = some (.slice Ao36 x490002_2.length co36) ∧ w41.cell? ⟨gb489, 3, none⟩ = some (.slice Ao37 x490003_2.length co37) ∧ w41.cell? (ad495.add ((x10_2).toNat * 2)) = some (.int .i64 ((rd_T45 l1 x10_2).f0)) ∧ w41.cell? ⟨(ad495.add ((x10_2).toNat * 2)).block, (ad495.add ((x10_2).toNat * 2)).off + 1, none⟩ = some (.int .i64 ((rd_T45 l1 x10_2).f1)) := hS_
                refine norm_ (a' := ?_) ?_ ?_
                rotate_left
                ·simp only [putAll, Act.put, List.setIfInBounds_toArray, List.set_cons_zero, List.set_cons_succ]
                 rfl
                refine one_ (i := 13) (N := some 12) #[true, true, true, true, true, true, true, true, true, true, true, true, true, true, false, false] rfl rfl (one_of HT_.out (by kernel_rfl)) (by decide) (fun K hK => ?_)
                refine box_step ?hg (N := 12) ?hd (cs := #[.bool false, .int .i64 0, .int .i64 0, .int .i64 0]) (t := 32) ?hr ?_; (case hd => rfl); (case hg => rfl); (case hr => first | (go_simp; done) | (go_simp; rfl))
                intro gb510 hg w42 hbox hb
                have BK510 := Aside0.mk (hbox)
                have GW510 := Aside0.mk ((by rw [hg]; exact (below_size (bl HB)) : w.heap.size ≤ gb510))
                have GE510 := Aside0.mk ((by rw [hg]; exact (below_size (bl HB)) : w.heap.size ≤ gb510))
                have NB486_510 := nb BK486 hg
                have NB510_486 := bn BK486 hg
                have NB489_510 := nb BK489 hg
                have NB510_489 := bn BK489 hg
                have NB509_510 := nb BK509 hg
                have NB510_509 := bn BK509 hg
                replace HO_8 := Aside0.mk (Kd.R_below (by (with_reducible repeat (first | apply Kd.R_alloc | apply Kd.R_drewN | apply Kd.R_drew)); exact HO_8.out) hb)
                replace HO_9 := Aside0.mk (Kd.R_below (by (with_reducible repeat (first | apply Kd.R_alloc | apply Kd.R_drewN | apply Kd.R_drew)); exact HO_9.out) hb)
                replace HO_490002 := ve HO_490002 hg hb
                replace HO_490003 := ve HO_490003 hg hb
                replace HO501 := ve HO501 hg hb
                replace HO504 := ve HO504 hg hb
                replace BK486 := Aside0.mk (blk_below (bo BK486) hb)
                replace BK489 := Aside0.mk (blk_below (bo BK489) hb)
                replace BK509 := Aside0.mk (blk_below (bo BK509) hb)
                replace HB := Aside0.mk (below_step (bl HB) hb)
                clear hb hbox hg
                refine hK.out _ _ ⟨(blk_cell BK486.out 0).trans rfl, (blk_cell BK486.out 1).trans rfl, (blk_cell BK486.out 2).trans rfl, (blk_cell BK486.out 3).trans rfl, (blk_cell BK489.out 0).trans rfl, (blk_cell BK489.out 1).trans rfl, (blk_cell BK489.out 2).trans rfl, (blk_cell BK489.out 3).trans rfl, ((HB.out.cell (World.block_lt_of_cell? w _ hw496_0)).trans hw496_0), ((HB.out.cell (World.block_lt_of_cell? w _ hw496_1)).trans hw496_1)⟩ (fun hHeld => ?_)
                clear hK K
                refine norm_ (a' := ?_) ?_ ?_
                rotate_left
                ·show Act.put _ (some 12) _ = _
                 simp only [Act.put, List.setIfInBounds_toArray, List.set_cons_zero, List.set_cons_succ, i64_w, i32_w]
                 rfl
                exact norm_ (by first | (simp only [putAll, Act.put, List.setIfInBounds_toArray, List.set_cons_zero, List.set_cons_succ]; done) | (simp only [putAll, Act.put, List.setIfInBounds_toArray, List.set_cons_zero, List.set_cons_succ]; rfl)) (hJ8_12_13 (v500, v503, gb509, gb510) _ ⟨hHeld, (by (with_reducible repeat (first | apply Kd.V_alloc | apply Kd.V_drewN | apply Kd.V_drew)); exact Kd.V_mono HO501.out (fun _ hk => ⟨hk.1.1, ⟨hk.1.2.1, ⟨hk.1.2.2.1, ⟨hk.1.2.2.2.1, ⟨hk.1.2.2.2.2, hk.2⟩⟩⟩⟩⟩)), (by (with_reducible repeat (first | apply Kd.V_alloc | apply Kd.V_drewN | apply Kd.V_drew)); exact Kd.V_mono HO504.out (fun _ hk => ⟨hk.1.1, ⟨hk.1.2.1, ⟨hk.1.2.2.1, ⟨hk.1.2.2.2.1, ⟨hk.1.2.2.2.2, hk.2⟩⟩⟩⟩⟩)), (by (with_reducible repeat (first | apply Kd.V_alloc | apply Kd.V_drewN | apply Kd.V_drew)); exact Kd.V_mono HO_490002.out (fun _ hk => ⟨hk.1.1, ⟨hk.1.2.1, ⟨hk.1.2.2.1, ⟨hk.1.2.2.2.1, ⟨hk.1.2.2.2.2, hk.2⟩⟩⟩⟩⟩)), (by (with_reducible repeat (first | apply Kd.V_alloc | apply Kd.V_drewN | apply Kd.V_drew)); exact Kd.V_mono HO_490003.out (fun _ hk => ⟨hk.1.1, ⟨hk.1.2.1, ⟨hk.1.2.2.1, ⟨hk.1.2.2.2.1, ⟨hk.1.2.2.2.2, hk.2⟩⟩⟩⟩⟩)), (by (with_reducible repeat (first | apply Kd.R_alloc | apply Kd.R_drewN | apply Kd.R_drew)); exact HO_8.out), (by (with_reducible repeat (first | apply Kd.R_alloc | apply Kd.R_drewN | apply Kd.R_drew)); exact HO_9.out), (bo BK486), (bo BK489), (bo BK509), (bo BK510), GW509.out, GE509.out, NB486_509.out, NB509_486.out, NB489_509.out, NB509_489.out, NB510_509.out, NB509_510.out, GW510.out, GE510.out, NB486_510.out, NB510_486.out, NB489_510.out, NB510_489.out, (bl HB)⟩)
              rintro ⟨v500, v503, gb509, gb510⟩ w42 ⟨hS_, h0_, h1_, h2_, h3_, h4_, h5_, h6_, h7_, h8_, h9_, h10_, h11_, h12_, h13_, h14_, h15_, h16_, h17_, h18_, h19_, h20_, h21_, h22_, h23_, h24_⟩
              have HO501 : Aside0 (Kd.V (Kd.int .i64) 3 w42 w.heap.size (fun k_ => some k_ ≠ (u8 : Value).ownBlock ∧ some k_ ≠ (u9 : Value).ownBlock ∧ k_ ≠ gb486 ∧ k_ ≠ gb489 ∧ k_ ≠ gb509 ∧ k_ ≠ gb510) v500 t499) := ⟨h0_⟩
              have HO504 : Aside0 (Kd.V k54 54 w42 w.heap.size (fun k_ => some k_ ≠ (u8 : Value).ownBlock ∧ some k_ ≠ (u9 : Value).ownBlock ∧ k_ ≠ gb486 ∧ k_ ≠ gb489 ∧ k_ ≠ gb509 ∧ k_ ≠ gb510) v503 t502) := ⟨h1_⟩
              have BK509 : Aside0 (w42.heap[gb509]? = some (.cells #[.int .i64 0, .int .i64 0, .slice none 0 0, .slice none 0 0] 27 (0, 0))) := ⟨h8_⟩
              have BK510 : Aside0 (w42.heap[gb510]? = some (.cells #[.bool false, .int .i64 0, .int .i64 0, .int .i64 0] 32 (0, 0))) := ⟨h9_⟩
              have GW509 : Aside0 (w.heap.size ≤ gb509) := ⟨h10_⟩
              have GE509 : Aside0 (w.heap.size ≤ gb509) := ⟨h11_⟩
              have NB486_509 : Aside0 (gb486 ≠ gb509) := ⟨h12_⟩
              have NB509_486 : Aside0 (gb509 ≠ gb486) := ⟨h13_⟩
              have NB489_509 : Aside0 (gb489 ≠ gb509) := ⟨h14_⟩
              have NB509_489 : Aside0 (gb509 ≠ gb489) := ⟨h15_⟩
              have NB510_509 : Aside0 (gb510 ≠ gb509) := ⟨h16_⟩
              have NB509_510 : Aside0 (gb509 ≠ gb510) := ⟨h17_⟩
              have GW510 : Aside0 (w.heap.size ≤ gb510) := ⟨h18_⟩
              have GE510 : Aside0 (w.heap.size ≤ gb510) := ⟨h19_⟩
              have NB486_510 : Aside0 (gb486 ≠ gb510) := ⟨h20_⟩
              have NB510_486 : Aside0 (gb510 ≠ gb486) := ⟨h21_⟩
              have NB489_510 : Aside0 (gb489 ≠ gb510) := ⟨h22_⟩
              have NB510_489 : Aside0 (gb510 ≠ gb489) := ⟨h23_⟩
              replace HO_490002 : Aside0 (Kd.V (Kd.int .i64) 3 w42 w.heap.size (fun k_ => some k_ ≠ (u8 : Value).ownBlock ∧ some k_ ≠ (u9 : Value).ownBlock ∧ k_ ≠ gb486 ∧ k_ ≠ gb489 ∧ k_ ≠ gb509 ∧ k_ ≠ gb510) (.slice Ao36 x490002_2.length co36) x490002_2) := ⟨h2_⟩
              replace HO_490003 : Aside0 (Kd.V k54 54 w42 w.heap.size (fun k_ => some k_ ≠ (u8 : Value).ownBlock ∧ some k_ ≠ (u9 : Value).ownBlock ∧ k_ ≠ gb486 ∧ k_ ≠ gb489 ∧ k_ ≠ gb509 ∧ k_ ≠ gb510) (.slice Ao37 x490003_2.length co37) x490003_2) := ⟨h3_⟩
              replace HO_8 : Aside0 (Kd.R (Kd.int .i64) 3 w42 w.heap.size (fun k_ => some k_ ≠ (u9 : Value).ownBlock) u8 x8_2) := ⟨h4_⟩
              replace HO_9 : Aside0 (Kd.R (Kd.int .i64) 3 w42 w.heap.size (fun k_ => some k_ ≠ (u8 : Value).ownBlock) u9 x9_2) := ⟨h5_⟩
              replace BK486 : Aside0 (w42.heap[gb486]? = some (.cells #[.int .i64 a0_0, .int .i64 a0_1, .int .i64 a0_2, .int .i64 a0_3] 23 (0, 0))) := ⟨h6_⟩
              replace BK489 : Aside0 (w42.heap[gb489]? = some (.cells #[.int .i64 x490000_2, .int .i64 x490001_2, .slice Ao36 x490002_2.length co36, .slice Ao37 x490003_2.length co37] 27 (0, 0))) := ⟨h7_⟩
              replace HB : Aside0 (Below w.heap.size w w42) := ⟨h24_⟩
              clear h0_ h1_ h2_ h3_ h4_ h5_ h6_ h7_ h8_ h9_ h10_ h11_ h12_ h13_ h14_ h15_ h16_ h17_ h18_ h19_ h20_ h21_ h22_ h23_ h24_
              have hHeld : w42.cell? ⟨gb486, 0, none⟩ = some (.int .i64 a0_0) ∧ w42.cell? ⟨gb486, 1, none⟩ = some (.int .i64 a0_1) ∧ w42.cell? ⟨gb486, 2, none⟩ = some (.int .i64 a0_2) ∧ w42.cell? ⟨gb486, 3, none⟩ = some (.int .i64 a0_3) ∧ w42.cell? ⟨gb489, 0, none⟩ = some (.int .i64 x490000_2) ∧ w42.cell? ⟨gb489, 1, none⟩ = some (.int .i64 x490001_2) ∧ w42.cell? ⟨gb489, 2, none⟩ = some (.slice Ao36 x490002_2.length co36) ∧ w42.cell? ⟨gb489, 3, none⟩ = some (.slice Ao37 x490003_2.length co37) ∧ w42.cell? (ad495.add ((x10_2).toNat * 2)) = some (.int .i64 ((rd_T45 l1 x10_2).f0)) ∧ w42.cell? ⟨(ad495.add ((x10_2).toNat * 2)).block, (ad495.add ((x10_2).toNat * 2)).off + 1, none⟩ = some (.int .i64 ((rd_T45 l1 x10_2).f1)) := hS_
              obtain ⟨Ao45, co45, eo45⟩ := Kd.V_slice HO501.out
              (first | subst eo45 | (injection eo45 with f1_ f2_ f3_; have f4_ := f1_.symm; have f5_ := f3_.symm; clear f1_ f2_ f3_; subst f4_; subst f5_))
              obtain ⟨Ao47, co47, eo47⟩ := Kd.V_slice HO504.out
              (first | subst eo47 | (injection eo47 with f1_ f2_ f3_; have f4_ := f1_.symm; have f5_ := f3_.symm; clear f1_ f2_ f3_; subst f4_; subst f5_))
              refine norm_ (a' := ?_) ?_ ?_
              rotate_left
              ·simp only [putAll, Act.put, List.setIfInBounds_toArray, List.set_cons_zero, List.set_cons_succ]
               rfl
              refine one_ (i := 14) (N := none) #[true, true, true, true, true, true, true, true, true, true, true, true, true, true, true, false] rfl rfl (one_of HT_.out (by kernel_rfl)) (by decide) (fun K hK => ?_)
              have hs43 : w42.cell? ⟨gb509, 0, none⟩ = some (.int .i64 0) := (blk_cell BK509.out 0).trans rfl
              have hfs43 := blk_frozen BK509.out 0
              have hns43_0 := NB486_509.out
              have hns43_1 := NB489_509.out
              have hns43_3 := NB510_509.out
              have hms43_0 := NB509_486.out
              have hms43_1 := NB509_489.out
              have hms43_3 := NB509_510.out
              have hs44 : w42.cell? ⟨gb509, 1, none⟩ = some (.int .i64 0) := (blk_cell BK509.out 1).trans rfl
              have hfs44 := blk_frozen BK509.out 1
              have hns44_0 := NB486_509.out
              have hns44_1 := NB489_509.out
              have hns44_3 := NB510_509.out
              have hms44_0 := NB509_486.out
              have hms44_1 := NB509_489.out
              have hms44_3 := NB509_510.out
              have hs46 : w42.cell? ⟨gb509, 2, none⟩ = some (.slice none 0 0) := (blk_cell BK509.out 2).trans rfl
              have hfs46 := blk_frozen BK509.out 2
              have hns46_0 := NB486_509.out
              have hns46_1 := NB489_509.out
              have hns46_3 := NB510_509.out
              have hms46_0 := NB509_486.out
              have hms46_1 := NB509_489.out
              have hms46_3 := NB509_510.out
              have hs48 : w42.cell? ⟨gb509, 3, none⟩ = some (.slice none 0 0) := (blk_cell BK509.out 3).trans rfl
              have hfs48 := blk_frozen BK509.out 3
              have hns48_0 := NB486_509.out
              have hns48_1 := NB489_509.out
              have hns48_3 := NB510_509.out
              have hms48_0 := NB509_486.out
              have hms48_1 := NB509_489.out
              have hms48_3 := NB509_510.out
              refine skip_ (w1 := ?_) (by rfl) rfl ?_ ?_
              rotate_left
              ·go_simp
               rfl
              refine hK.out _ _ ⟨((cell_far (p := ⟨gb509, _, none⟩) NB486_509.out _).trans (((cell_far (p := ⟨gb509, _, none⟩) NB486_509.out _).trans (((cell_far (p := ⟨gb509, _, none⟩) NB486_509.out _).trans (((cell_far (p := ⟨gb509, _, none⟩) NB486_509.out _).trans (hHeld.1)))))))), ((cell_far (p := ⟨gb509, _, none⟩) NB486_509.out _).trans (((cell_far (p := ⟨gb509, _, none⟩) NB486_509.out _).trans (((cell_far (p := ⟨gb509, _, none⟩) NB486_509.out _).trans (((cell_far (p := ⟨gb509, _, none⟩) NB486_509.out _).trans (hHeld.2.1)))))))), ((cell_far (p := ⟨gb509, _, none⟩) NB486_509.out _).trans (((cell_far (p := ⟨gb509, _, none⟩) NB486_509.out _).trans (((cell_far (p := ⟨gb509, _, none⟩) NB486_509.out _).trans (((cell_far (p := ⟨gb509, _, none⟩) NB486_509.out _).trans (hHeld.2.2.1)))))))), ((cell_far (p := ⟨gb509, _, none⟩) NB486_509.out _).trans (((cell_far (p := ⟨gb509, _, none⟩) NB486_509.out _).trans (((cell_far (p := ⟨gb509, _, none⟩) NB486_509.out _).trans (((cell_far (p := ⟨gb509, _, none⟩) NB486_509.out _).trans (hHeld.2.2.2.1)))))))), ((cell_far (p := ⟨gb509, _, none⟩) NB489_509.out _).trans (((cell_far (p := ⟨gb509, _, none⟩) NB489_509.out _).trans (((cell_far (p := ⟨gb509, _, none⟩) NB489_509.out _).trans (((cell_far (p := ⟨gb509, _, none⟩) NB489_509.out _).trans (hHeld.2.2.2.2.1)))))))), ((cell_far (p := ⟨gb509, _, none⟩) NB489_509.out _).trans (((cell_far (p := ⟨gb509, _, none⟩) NB489_509.out _).trans (((cell_far (p := ⟨gb509, _, none⟩) NB489_509.out _).trans (((cell_far (p := ⟨gb509, _, none⟩) NB489_509.out _).trans (hHeld.2.2.2.2.2.1)))))))), ((cell_far (p := ⟨gb509, _, none⟩) NB489_509.out _).trans (((cell_far (p := ⟨gb509, _, none⟩) NB489_509.out _).trans (((cell_far (p := ⟨gb509, _, none⟩) NB489_509.out _).trans (((cell_far (p := ⟨gb509, _, none⟩) NB489_509.out _).trans (hHeld.2.2.2.2.2.2.1)))))))), ((cell_far (p := ⟨gb509, _, none⟩) NB489_509.out _).trans (((cell_far (p := ⟨gb509, _, none⟩) NB489_509.out _).trans (((cell_far (p := ⟨gb509, _, none⟩) NB489_509.out _).trans (((cell_far (p := ⟨gb509, _, none⟩) NB489_509.out _).trans (hHeld.2.2.2.2.2.2.2.1)))))))), ((cell_far (p := ⟨gb509, _, none⟩) (by first | exact Nat.ne_of_lt (Nat.lt_of_lt_of_le (by have := World.block_lt_of_cell? _ _ hw496_0; first | rwa [add_block] at this | exact this) GW509.out) | (rw [add_block]; exact Nat.ne_of_lt (Nat.lt_of_lt_of_le (by have := World.block_lt_of_cell? _ _ hw496_0; first | rwa [add_block] at this | exact this) GW509.out)) | (show (Addr.add _ _).block ≠ _; rw [add_block]; exact Nat.ne_of_lt (Nat.lt_of_lt_of_le (by have := World.block_lt_of_cell? _ _ hw496_0; first | rwa [add_block] at this | exact this) GW509.out)) | (dsimp only; exact Nat.ne_of_lt (Nat.lt_of_lt_of_le (by have := World.block_lt_of_cell? _ _ hw496_0; first | rwa [add_block] at this | exact this) GW509.out))) _).trans (((cell_far (p := ⟨gb509, _, none⟩) (by first | exact Nat.ne_of_lt (Nat.lt_of_lt_of_le (by have := World.block_lt_of_cell? _ _ hw496_0; first | rwa [add_block] at this | exact this) GW509.out) | (rw [add_block]; exact Nat.ne_of_lt (Nat.lt_of_lt_of_le (by have := World.block_lt_of_cell? _ _ hw496_0; first | rwa [add_block] at this | exact this) GW509.out)) | (show (Addr.add _ _).block ≠ _; rw [add_block]; exact Nat.ne_of_lt (Nat.lt_of_lt_of_le (by have := World.block_lt_of_cell? _ _ hw496_0; first | rwa [add_block] at this | exact this) GW509.out)) | (dsimp only; exact Nat.ne_of_lt (Nat.lt_of_lt_of_le (by have := World.block_lt_of_cell? _ _ hw496_0; first | rwa [add_block] at this | exact this) GW509.out))) _).trans (((cell_far (p := ⟨gb509, _, none⟩) (by first | exact Nat.ne_of_lt (Nat.lt_of_lt_of_le (by have := World.block_lt_of_cell? _ _ hw496_0; first | rwa [add_block] at this | exact this) GW509.out) | (rw [add_block]; exact Nat.ne_of_lt (Nat.lt_of_lt_of_le (by have := World.block_lt_of_cell? _ _ hw496_0; first | rwa [add_block] at this | exact this) GW509.out)) | (show (Addr.add _ _).block ≠ _; rw [add_block]; exact Nat.ne_of_lt (Nat.lt_of_lt_of_le (by have := World.block_lt_of_cell? _ _ hw496_0; first | rwa [add_block] at this | exact this) GW509.out)) | (dsimp only; exact Nat.ne_of_lt (Nat.lt_of_lt_of_le (by have := World.block_lt_of_cell? _ _ hw496_0; first | rwa [add_block] at this | exact this) GW509.out))) _).trans (((cell_far (p := ⟨gb509, _, none⟩) (by first | exact Nat.ne_of_lt (Nat.lt_of_lt_of_le (by have := World.block_lt_of_cell? _ _ hw496_0; first | rwa [add_block] at this | exact this) GW509.out) | (rw [add_block]; exact Nat.ne_of_lt (Nat.lt_of_lt_of_le (by have := World.block_lt_of_cell? _ _ hw496_0; first | rwa [add_block] at this | exact this) GW509.out)) | (show (Addr.add _ _).block ≠ _; rw [add_block]; exact Nat.ne_of_lt (Nat.lt_of_lt_of_le (by have := World.block_lt_of_cell? _ _ hw496_0; first | rwa [add_block] at this | exact this) GW509.out)) | (dsimp only; exact Nat.ne_of_lt (Nat.lt_of_lt_of_le (by have := World.block_lt_of_cell? _ _ hw496_0; first | rwa [add_block] at this | exact this) GW509.out))) _).trans (hHeld.2.2.2.2.2.2.2.2.1)))))))), ((cell_far (p := ⟨gb509, _, none⟩) (by first | exact Nat.ne_of_lt (Nat.lt_of_lt_of_le (by have := World.block_lt_of_cell? _ _ hw496_1; first | rwa [add_block] at this | exact this) GW509.out) | (rw [add_block]; exact Nat.ne_of_lt (Nat.lt_of_lt_of_le (by have := World.block_lt_of_cell? _ _ hw496_1; first | rwa [add_block] at this | exact this) GW509.out)) | (show (Addr.add _ _).block ≠ _; rw [add_block]; exact Nat.ne_of_lt (Nat.lt_of_lt_of_le (by have := World.block_lt_of_cell? _ _ hw496_1; first | rwa [add_block] at this | exact this) GW509.out)) | (dsimp only; exact Nat.ne_of_lt (Nat.lt_of_lt_of_le (by have := World.block_lt_of_cell? _ _ hw496_1; first | rwa [add_block] at this | exact this) GW509.out))) _).trans (((cell_far (p := ⟨gb509, _, none⟩) (by first | exact Nat.ne_of_lt (Nat.lt_of_lt_of_le (by have := World.block_lt_of_cell? _ _ hw496_1; first | rwa [add_block] at this | exact this) GW509.out) | (rw [add_block]; exact Nat.ne_of_lt (Nat.lt_of_lt_of_le (by have := World.block_lt_of_cell? _ _ hw496_1; first | rwa [add_block] at this | exact this) GW509.out)) | (show (Addr.add _ _).block ≠ _; rw [add_block]; exact Nat.ne_of_lt (Nat.lt_of_lt_of_le (by have := World.block_lt_of_cell? _ _ hw496_1; first | rwa [add_block] at this | exact this) GW509.out)) | (dsimp only; exact Nat.ne_of_lt (Nat.lt_of_lt_of_le (by have := World.block_lt_of_cell? _ _ hw496_1; first | rwa [add_block] at this | exact this) GW509.out))) _).trans (((cell_far (p := ⟨gb509, _, none⟩) (by first | exact Nat.ne_of_lt (Nat.lt_of_lt_of_le (by have := World.block_lt_of_cell? _ _ hw496_1; first | rwa [add_block] at this | exact this) GW509.out) | (rw [add_block]; exact Nat.ne_of_lt (Nat.lt_of_lt_of_le (by have := World.block_lt_of_cell? _ _ hw496_1; first | rwa [add_block] at this | exact this) GW509.out)) | (show (Addr.add _ _).block ≠ _; rw [add_block]; exact Nat.ne_of_lt (Nat.lt_of_lt_of_le (by have := World.block_lt_of_cell? _ _ hw496_1; first | rwa [add_block] at this | exact this) GW509.out)) | (dsimp only; exact Nat.ne_of_lt (Nat.lt_of_lt_of_le (by have := World.block_lt_of_cell? _ _ hw496_1; first | rwa [add_block] at this | exact this) GW509.out))) _).trans (((cell_far (p := ⟨gb509, _, none⟩) (by first | exact Nat.ne_of_lt (Nat.lt_of_lt_of_le (by have := World.block_lt_of_cell? _ _ hw496_1; first | rwa [add_block] at this | exact this) GW509.out) | (rw [add_block]; exact Nat.ne_of_lt (Nat.lt_of_lt_of_le (by have := World.block_lt_of_cell? _ _ hw496_1; first | rwa [add_block] at this | exact this) GW509.out)) | (show (Addr.add _ _).block ≠ _; rw [add_block]; exact Nat.ne_of_lt (Nat.lt_of_lt_of_le (by have := World.block_lt_of_cell? _ _ hw496_1; first | rwa [add_block] at this | exact this) GW509.out)) | (dsimp only; exact Nat.ne_of_lt (Nat.lt_of_lt_of_le (by have := World.block_lt_of_cell? _ _ hw496_1; first | rwa [add_block] at this | exact this) GW509.out))) _).trans (hHeld.2.2.2.2.2.2.2.2.2))))))))⟩ (fun hHeld => ?_)
              clear hK K
              refine one_ (i := 15) (N := none) #[true, true, true, true, true, true, true, true, true, true, true, true, true, true, true, true] rfl rfl (one_of HT_.out (by kernel_rfl)) (by decide) (fun K hK => ?_)
              have hs49 : w42.cell? ⟨gb510, 0, none⟩ = some (.bool false) := (blk_cell BK510.out 0).trans rfl
              have hfs49 := blk_frozen BK510.out 0
              have hns49_0 := NB486_510.out
              have hns49_1 := NB489_510.out
              have hns49_2 := NB509_510.out
              have hms49_0 := NB510_486.out
              have hms49_1 := NB510_489.out
              have hms49_2 := NB510_509.out
              have hs50 : w42.cell? ⟨gb510, 1, none⟩ = some (.int .i64 0) := (blk_cell BK510.out 1).trans rfl
              have hfs50 := blk_frozen BK510.out 1
              have hns50_0 := NB486_510.out
              have hns50_1 := NB489_510.out
              have hns50_2 := NB509_510.out
              have hms50_0 := NB510_486.out
              have hms50_1 := NB510_489.out
              have hms50_2 := NB510_509.out
              have hs51 : w42.cell? ⟨gb510, 2, none⟩ = some (.int .i64 0) := (blk_cell BK510.out 2).trans rfl
              have hfs51 := blk_frozen BK510.out 2
              have hns51_0 := NB486_510.out
              have hns51_1 := NB489_510.out
              have hns51_2 := NB509_510.out
              have hms51_0 := NB510_486.out
              have hms51_1 := NB510_489.out
              have hms51_2 := NB510_509.out
              have hs52 : w42.cell? ⟨gb510, 3, none⟩ = some (.int .i64 0) := (blk_cell BK510.out 3).trans rfl
              have hfs52 := blk_frozen BK510.out 3
              have hns52_0 := NB486_510.out
              have hns52_1 := NB489_510.out
              have hns52_2 := NB509_510.out
              have hms52_0 := NB510_486.out
              have hms52_1 := NB510_489.out
              have hms52_2 := NB510_509.out
              refine skip_ (w1 := ?_) (by rfl) rfl ?_ ?_
              rotate_left
              ·go_simp
               rfl
              refine hK.out _ _ ⟨((cell_far (p := ⟨gb510, _, none⟩) NB486_510.out _).trans (((cell_far (p := ⟨gb510, _, none⟩) NB486_510.out _).trans (((cell_far (p := ⟨gb510, _, none⟩) NB486_510.out _).trans (((cell_far (p := ⟨gb510, _, none⟩) NB486_510.out _).trans (hHeld.1)))))))), ((cell_far (p := ⟨gb510, _, none⟩) NB486_510.out _).trans (((cell_far (p := ⟨gb510, _, none⟩) NB486_510.out _).trans (((cell_far (p := ⟨gb510, _, none⟩) NB486_510.out _).trans (((cell_far (p := ⟨gb510, _, none⟩) NB486_510.out _).trans (hHeld.2.1)))))))), ((cell_far (p := ⟨gb510, _, none⟩) NB486_510.out _).trans (((cell_far (p := ⟨gb510, _, none⟩) NB486_510.out _).trans (((cell_far (p := ⟨gb510, _, none⟩) NB486_510.out _).trans (((cell_far (p := ⟨gb510, _, none⟩) NB486_510.out _).trans (hHeld.2.2.1)))))))), ((cell_far (p := ⟨gb510, _, none⟩) NB486_510.out _).trans (((cell_far (p := ⟨gb510, _, none⟩) NB486_510.out _).trans (((cell_far (p := ⟨gb510, _, none⟩) NB486_510.out _).trans (((cell_far (p := ⟨gb510, _, none⟩) NB486_510.out _).trans (hHeld.2.2.2.1)))))))), ((cell_far (p := ⟨gb510, _, none⟩) NB489_510.out _).trans (((cell_far (p := ⟨gb510, _, none⟩) NB489_510.out _).trans (((cell_far (p := ⟨gb510, _, none⟩) NB489_510.out _).trans (((cell_far (p := ⟨gb510, _, none⟩) NB489_510.out _).trans (hHeld.2.2.2.2.1)))))))), ((cell_far (p := ⟨gb510, _, none⟩) NB489_510.out _).trans (((cell_far (p := ⟨gb510, _, none⟩) NB489_510.out _).trans (((cell_far (p := ⟨gb510, _, none⟩) NB489_510.out _).trans (((cell_far (p := ⟨gb510, _, none⟩) NB489_510.out _).trans (hHeld.2.2.2.2.2.1)))))))), ((cell_far (p := ⟨gb510, _, none⟩) NB489_510.out _).trans (((cell_far (p := ⟨gb510, _, none⟩) NB489_510.out _).trans (((cell_far (p := ⟨gb510, _, none⟩) NB489_510.out _).trans (((cell_far (p := ⟨gb510, _, none⟩) NB489_510.out _).trans (hHeld.2.2.2.2.2.2.1)))))))), ((cell_far (p := ⟨gb510, _, none⟩) NB489_510.out _).trans (((cell_far (p := ⟨gb510, _, none⟩) NB489_510.out _).trans (((cell_far (p := ⟨gb510, _, none⟩) NB489_510.out _).trans (((cell_far (p := ⟨gb510, _, none⟩) NB489_510.out _).trans (hHeld.2.2.2.2.2.2.2.1)))))))), ((cell_far (p := ⟨gb510, _, none⟩) (by first | exact Nat.ne_of_lt (Nat.lt_of_lt_of_le (by have := World.block_lt_of_cell? _ _ hw496_0; first | rwa [add_block] at this | exact this) GW510.out) | (rw [add_block]; exact Nat.ne_of_lt (Nat.lt_of_lt_of_le (by have := World.block_lt_of_cell? _ _ hw496_0; first | rwa [add_block] at this | exact this) GW510.out)) | (show (Addr.add _ _).block ≠ _; rw [add_block]; exact Nat.ne_of_lt (Nat.lt_of_lt_of_le (by have := World.block_lt_of_cell? _ _ hw496_0; first | rwa [add_block] at this | exact this) GW510.out)) | (dsimp only; exact Nat.ne_of_lt (Nat.lt_of_lt_of_le (by have := World.block_lt_of_cell? _ _ hw496_0; first | rwa [add_block] at this | exact this) GW510.out))) _).trans (((cell_far (p := ⟨gb510, _, none⟩) (by first | exact Nat.ne_of_lt (Nat.lt_of_lt_of_le (by have := World.block_lt_of_cell? _ _ hw496_0; first | rwa [add_block] at this | exact this) GW510.out) | (rw [add_block]; exact Nat.ne_of_lt (Nat.lt_of_lt_of_le (by have := World.block_lt_of_cell? _ _ hw496_0; first | rwa [add_block] at this | exact this) GW510.out)) | (show (Addr.add _ _).block ≠ _; rw [add_block]; exact Nat.ne_of_lt (Nat.lt_of_lt_of_le (by have := World.block_lt_of_cell? _ _ hw496_0; first | rwa [add_block] at this | exact this) GW510.out)) | (dsimp only; exact Nat.ne_of_lt (Nat.lt_of_lt_of_le (by have := World.block_lt_of_cell? _ _ hw496_0; first | rwa [add_block] at this | exact this) GW510.out))) _).trans (((cell_far (p := ⟨gb510, _, none⟩) (by first | exact Nat.ne_of_lt (Nat.lt_of_lt_of_le (by have := World.block_lt_of_cell? _ _ hw496_0; first | rwa [add_block] at this | exact this) GW510.out) | (rw [add_block]; exact Nat.ne_of_lt (Nat.lt_of_lt_of_le (by have := World.block_lt_of_cell? _ _ hw496_0; first | rwa [add_block] at this | exact this) GW510.out)) | (show (Addr.add _ _).block ≠ _; rw [add_block]; exact Nat.ne_of_lt (Nat.lt_of_lt_of_le (by have := World.block_lt_of_cell? _ _ hw496_0; first | rwa [add_block] at this | exact this) GW510.out)) | (dsimp only; exact Nat.ne_of_lt (Nat.lt_of_lt_of_le (by have := World.block_lt_of_cell? _ _ hw496_0; first | rwa [add_block] at this | exact this) GW510.out))) _).trans (((cell_far (p := ⟨gb510, _, none⟩) (by first | exact Nat.ne_of_lt (Nat.lt_of_lt_of_le (by have := World.block_lt_of_cell? _ _ hw496_0; first | rwa [add_block] at this | exact this) GW510.out) | (rw [add_block]; exact Nat.ne_of_lt (Nat.lt_of_lt_of_le (by have := World.block_lt_of_cell? _ _ hw496_0; first | rwa [add_block] at this | exact this) GW510.out)) | (show (Addr.add _ _).block ≠ _; rw [add_block]; exact Nat.ne_of_lt (Nat.lt_of_lt_of_le (by have := World.block_lt_of_cell? _ _ hw496_0; first | rwa [add_block] at this | exact this) GW510.out)) | (dsimp only; exact Nat.ne_of_lt (Nat.lt_of_lt_of_le (by have := World.block_lt_of_cell? _ _ hw496_0; first | rwa [add_block] at this | exact this) GW510.out))) _).trans (hHeld.2.2.2.2.2.2.2.2.1)))))))), ((cell_far (p := ⟨gb510, _, none⟩) (by first | exact Nat.ne_of_lt (Nat.lt_of_lt_of_le (by have := World.block_lt_of_cell? _ _ hw496_1; first | rwa [add_block] at this | exact this) GW510.out) | (rw [add_block]; exact Nat.ne_of_lt (Nat.lt_of_lt_of_le (by have := World.block_lt_of_cell? _ _ hw496_1; first | rwa [add_block] at this | exact this) GW510.out)) | (show (Addr.add _ _).block ≠ _; rw [add_block]; exact Nat.ne_of_lt (Nat.lt_of_lt_of_le (by have := World.block_lt_of_cell? _ _ hw496_1; first | rwa [add_block] at this | exact this) GW510.out)) | (dsimp only; exact Nat.ne_of_lt (Nat.lt_of_lt_of_le (by have := World.block_lt_of_cell? _ _ hw496_1; first | rwa [add_block] at this | exact this) GW510.out))) _).trans (((cell_far (p := ⟨gb510, _, none⟩) (by first | exact Nat.ne_of_lt (Nat.lt_of_lt_of_le (by have := World.block_lt_of_cell? _ _ hw496_1; first | rwa [add_block] at this | exact this) GW510.out) | (rw [add_block]; exact Nat.ne_of_lt (Nat.lt_of_lt_of_le (by have := World.block_lt_of_cell? _ _ hw496_1; first | rwa [add_block] at this | exact this) GW510.out)) | (show (Addr.add _ _).block ≠ _; rw [add_block]; exact Nat.ne_of_lt (Nat.lt_of_lt_of_le (by have := World.block_lt_of_cell? _ _ hw496_1; first | rwa [add_block] at this | exact this) GW510.out)) | (dsimp only; exact Nat.ne_of_lt (Nat.lt_of_lt_of_le (by have := World.block_lt_of_cell? _ _ hw496_1; first | rwa [add_block] at this | exact this) GW510.out))) _).trans (((cell_far (p := ⟨gb510, _, none⟩) (by first | exact Nat.ne_of_lt (Nat.lt_of_lt_of_le (by have := World.block_lt_of_cell? _ _ hw496_1; first | rwa [add_block] at this | exact this) GW510.out) | (rw [add_block]; exact Nat.ne_of_lt (Nat.lt_of_lt_of_le (by have := World.block_lt_of_cell? _ _ hw496_1; first | rwa [add_block] at this | exact this) GW510.out)) | (show (Addr.add _ _).block ≠ _; rw [add_block]; exact Nat.ne_of_lt (Nat.lt_of_lt_of_le (by have := World.block_lt_of_cell? _ _ hw496_1; first | rwa [add_block] at this | exact this) GW510.out)) | (dsimp only; exact Nat.ne_of_lt (Nat.lt_of_lt_of_le (by have := World.block_lt_of_cell? _ _ hw496_1; first | rwa [add_block] at this | exact this) GW510.out))) _).trans (((cell_far (p := ⟨gb510, _, none⟩) (by first | exact Nat.ne_of_lt (Nat.lt_of_lt_of_le (by have := World.block_lt_of_cell? _ _ hw496_1; first | rwa [add_block] at this | exact this) GW510.out) | (rw [add_block]; exact Nat.ne_of_lt (Nat.lt_of_lt_of_le (by have := World.block_lt_of_cell? _ _ hw496_1; first | rwa [add_block] at this | exact this) GW510.out)) | (show (Addr.add _ _).block ≠ _; rw [add_block]; exact Nat.ne_of_lt (Nat.lt_of_lt_of_le (by have := World.block_lt_of_cell? _ _ hw496_1; first | rwa [add_block] at this | exact this) GW510.out)) | (dsimp only; exact Nat.ne_of_lt (Nat.lt_of_lt_of_le (by have := World.block_lt_of_cell? _ _ hw496_1; first | rwa [add_block] at this | exact this) GW510.out))) _).trans (hHeld.2.2.2.2.2.2.2.2.2))))))))⟩ (fun hHeld => ?_)
              clear hK K
              refine done_ (done_of HT_.out (by kernel_rfl)) ?_
              have hnb53 := NB509_486.out
              have hnc53 := NB486_509.out
              have hnb54 := NB509_489.out
              have hnc54 := NB489_509.out
              have hnb55 := NB509_510.out
              have hnc55 := NB510_509.out
              obtain ⟨hcz56_0, hcz56_1, hcz56_2, hcz56_3⟩ := ce4 BK509
              obtain ⟨hfz56_0, hfz56_1, hfz56_2, hfz56_3⟩ := fr4 BK509
              have hnb57 := NB489_486.out
              have hnc57 := NB486_489.out
              have hnb58 := NB489_510.out
              have hnc58 := NB510_489.out
              obtain ⟨hcz59_0, hcz59_1, hcz59_2, hcz59_3⟩ := ce4 BK489
              obtain ⟨hfz59_0, hfz59_1, hfz59_2, hfz59_3⟩ := fr4 BK489
              go_upto_if 92 with (first | ((with_reducible refine gate_store (t := 27) (p := 5) rfl ?_); refine store_event (t := 27) (p := 5) (v := ?vo_w60) (w1 := ((((((((((((w42.setCell ⟨gb509, 0, none⟩ (.int .i64 t497)).setCell ⟨gb509, 1, none⟩ (.int .i64 t498)).setCell ⟨gb509, 2, none⟩ (.slice Ao45 t499.length co45)).setCell ⟨gb509, 3, none⟩ (.slice Ao47 t502.length co47)).setCell ⟨gb510, 0, none⟩ (.bool t505)).setCell ⟨gb510, 1, none⟩ (.int .i64 t506)).setCell ⟨gb510, 2, none⟩ (.int .i64 t507)).setCell ⟨gb510, 3, none⟩ (.int .i64 t508)).setCell ⟨gb489, 0, none⟩ (.int .i64 t497)).setCell ⟨gb489, 1, none⟩ (.int .i64 t498)).setCell ⟨gb489, 2, none⟩ (.slice Ao45 t499.length co45)).setCell ⟨gb489, 3, none⟩ (.slice Ao47 t502.length co47))) ?hg ?ho ?hn ?hr ?_; (case ho => rfl); (case hg => rfl); (case hn => rfl); (case hr => first | (go_simp; done) | (go_simp; rfl)); intro w60 hw; replace HO_8 : Aside0 (Kd.R (Kd.int .i64) 3 w60 w.heap.size (fun k_ => some k_ ≠ (u9 : Value).ownBlock) u8 x8_2) := ⟨(by rw [hw]; exact (by (with_reducible repeat (first | apply Kd.R_alloc | apply Kd.R_drewN | apply Kd.R_drew)); exact Kd.R_mono (Kd.R_far (p := ⟨gb489, 3, none⟩) (Kd.R_far (p := ⟨gb489, 2, none⟩) (Kd.R_far (p := ⟨gb489, 1, none⟩) (Kd.R_far (p := ⟨gb489, 0, none⟩) (Kd.R_far (p := ⟨gb510, 3, none⟩) (Kd.R_far (p := ⟨gb510, 2, none⟩) (Kd.R_far (p := ⟨gb510, 1, none⟩) (Kd.R_far (p := ⟨gb510, 0, none⟩) (Kd.R_far (p := ⟨gb509, 3, none⟩) (Kd.R_far (p := ⟨gb509, 2, none⟩) (Kd.R_far (p := ⟨gb509, 1, none⟩) (Kd.R_far (p := ⟨gb509, 0, none⟩) (Kd.R_types (Kd.R_types (Kd.R_types HO_8.out BK509.out (by decide)) BK510.out (by decide)) BK489.out (by decide)) (fun _ hk => hk.1.1.2) (.int .i64 t497)) (fun _ hk => hk.1.1.2) (.int .i64 t498)) (fun _ hk => hk.1.1.2) (.slice Ao45 t499.length co45)) (fun _ hk => hk.1.1.2) (.slice Ao47 t502.length co47)) (fun _ hk => hk.1.2) (.bool t505)) (fun _ hk => hk.1.2) (.int .i64 t506)) (fun _ hk => hk.1.2) (.int .i64 t507)) (fun _ hk => hk.1.2) (.int .i64 t508)) (fun _ hk => hk.2) (.int .i64 t497)) (fun _ hk => hk.2) (.int .i64 t498)) (fun _ hk => hk.2) (.slice Ao45 t499.length co45)) (fun _ hk => hk.2) (.slice Ao47 t502.length co47)) (fun _ hk => hk.1.1.1)))⟩; replace HO_9 : Aside0 (Kd.R (Kd.int .i64) 3 w60 w.heap.size (fun k_ => some k_ ≠ (u8 : Value).ownBlock) u9 x9_2) := ⟨(by rw [hw]; exact (by (with_reducible repeat (first | apply Kd.R_alloc | apply Kd.R_drewN | apply Kd.R_drew)); exact Kd.R_mono (Kd.R_far (p := ⟨gb489, 3, none⟩) (Kd.R_far (p := ⟨gb489, 2, none⟩) (Kd.R_far (p := ⟨gb489, 1, none⟩) (Kd.R_far (p := ⟨gb489, 0, none⟩) (Kd.R_far (p := ⟨gb510, 3, none⟩) (Kd.R_far (p := ⟨gb510, 2, none⟩) (Kd.R_far (p := ⟨gb510, 1, none⟩) (Kd.R_far (p := ⟨gb510, 0, none⟩) (Kd.R_far (p := ⟨gb509, 3, none⟩) (Kd.R_far (p := ⟨gb509, 2, none⟩) (Kd.R_far (p := ⟨gb509, 1, none⟩) (Kd.R_far (p := ⟨gb509, 0, none⟩) (Kd.R_types (Kd.R_types (Kd.R_types HO_9.out BK509.out (by decide)) BK510.out (by decide)) BK489.out (by decide)) (fun _ hk => hk.1.1.2) (.int .i64 t497)) (fun _ hk => hk.1.1.2) (.int .i64 t498)) (fun _ hk => hk.1.1.2) (.slice Ao45 t499.length co45)) (fun _ hk => hk.1.1.2) (.slice Ao47 t502.length co47)) (fun _ hk => hk.1.2) (.bool t505)) (fun _ hk => hk.1.2) (.int .i64 t506)) (fun _ hk => hk.1.2) (.int .i64 t507)) (fun _ hk => hk.1.2) (.int .i64 t508)) (fun _ hk => hk.2) (.int .i64 t497)) (fun _ hk => hk.2) (.int .i64 t498)) (fun _ hk => hk.2) (.slice Ao45 t499.length co45)) (fun _ hk => hk.2) (.slice Ao47 t502.length co47)) (fun _ hk => hk.1.1.1)))⟩; replace HO_490002 : Aside0 (Kd.V (Kd.int .i64) 3 w60 w.heap.size (fun k_ => some k_ ≠ (u8 : Value).ownBlock ∧ some k_ ≠ (u9 : Value).ownBlock ∧ k_ ≠ gb486 ∧ k_ ≠ gb489 ∧ k_ ≠ gb509 ∧ k_ ≠ gb510) (.slice Ao36 x490002_2.length co36) x490002_2) := ⟨(by rw [hw]; exact (by (with_reducible repeat (first | apply Kd.V_alloc | apply Kd.V_drewN | apply Kd.V_drew)); exact Kd.V_mono (Kd.V_far (p := ⟨gb489, 3, none⟩) (Kd.V_far (p := ⟨gb489, 2, none⟩) (Kd.V_far (p := ⟨gb489, 1, none⟩) (Kd.V_far (p := ⟨gb489, 0, none⟩) (Kd.V_far (p := ⟨gb510, 3, none⟩) (Kd.V_far (p := ⟨gb510, 2, none⟩) (Kd.V_far (p := ⟨gb510, 1, none⟩) (Kd.V_far (p := ⟨gb510, 0, none⟩) (Kd.V_far (p := ⟨gb509, 3, none⟩) (Kd.V_far (p := ⟨gb509, 2, none⟩) (Kd.V_far (p := ⟨gb509, 1, none⟩) (Kd.V_far (p := ⟨gb509, 0, none⟩) (Kd.V_mono (Kd.V_mono (Kd.V_mono HO_490002.out (fun k_ hk => (⟨hk, hk.2.2.2.2.1⟩ : _ ∧ k_ ≠ gb509))) (fun k_ hk => (⟨hk, hk.1.2.2.2.2.2⟩ : _ ∧ k_ ≠ gb510))) (fun k_ hk => (⟨hk, hk.1.1.2.2.2.1⟩ : _ ∧ k_ ≠ gb489))) (fun _ hk => hk.1.1.2) (.int .i64 t497)) (fun _ hk => hk.1.1.2) (.int .i64 t498)) (fun _ hk => hk.1.1.2) (.slice Ao45 t499.length co45)) (fun _ hk => hk.1.1.2) (.slice Ao47 t502.length co47)) (fun _ hk => hk.1.2) (.bool t505)) (fun _ hk => hk.1.2) (.int .i64 t506)) (fun _ hk => hk.1.2) (.int .i64 t507)) (fun _ hk => hk.1.2) (.int .i64 t508)) (fun _ hk => hk.2) (.int .i64 t497)) (fun _ hk => hk.2) (.int .i64 t498)) (fun _ hk => hk.2) (.slice Ao45 t499.length co45)) (fun _ hk => hk.2) (.slice Ao47 t502.length co47)) (fun _ hk => ⟨hk.1.1.1.1, ⟨hk.1.1.1.2.1, ⟨hk.1.1.1.2.2.1, ⟨hk.1.1.1.2.2.2.1, ⟨hk.1.1.1.2.2.2.2.1, hk.1.1.1.2.2.2.2.2⟩⟩⟩⟩⟩)))⟩; replace HO_490003 : Aside0 (Kd.V k54 54 w60 w.heap.size (fun k_ => some k_ ≠ (u8 : Value).ownBlock ∧ some k_ ≠ (u9 : Value).ownBlock ∧ k_ ≠ gb486 ∧ k_ ≠ gb489 ∧ k_ ≠ gb509 ∧ k_ ≠ gb510) (.slice Ao37 x490003_2.length co37) x490003_2) := ⟨(by rw [hw]; exact (by (with_reducible repeat (first | apply Kd.V_alloc | apply Kd.V_drewN | apply Kd.V_drew)); exact Kd.V_mono (Kd.V_far (p := ⟨gb489, 3, none⟩) (Kd.V_far (p := ⟨gb489, 2, none⟩) (Kd.V_far (p := ⟨gb489, 1, none⟩) (Kd.V_far (p := ⟨gb489, 0, none⟩) (Kd.V_far (p := ⟨gb510, 3, none⟩) (Kd.V_far (p := ⟨gb510, 2, none⟩) (Kd.V_far (p := ⟨gb510, 1, none⟩) (Kd.V_far (p := ⟨gb510, 0, none⟩) (Kd.V_far (p := ⟨gb509, 3, none⟩) (Kd.V_far (p := ⟨gb509, 2, none⟩) (Kd.V_far (p := ⟨gb509, 1, none⟩) (Kd.V_far (p := ⟨gb509, 0, none⟩) (Kd.V_mono (Kd.V_mono (Kd.V_mono HO_490003.out (fun k_ hk => (⟨hk, hk.2.2.2.2.1⟩ : _ ∧ k_ ≠ gb509))) (fun k_ hk => (⟨hk, hk.1.2.2.2.2.2⟩ : _ ∧ k_ ≠ gb510))) (fun k_ hk => (⟨hk, hk.1.1.2.2.2.1⟩ : _ ∧ k_ ≠ gb489))) (fun _ hk => hk.1.1.2) (.int .i64 t497)) (fun _ hk => hk.1.1.2) (.int .i64 t498)) (fun _ hk => hk.1.1.2) (.slice Ao45 t499.length co45)) (fun _ hk => hk.1.1.2) (.slice Ao47 t502.length co47)) (fun _ hk => hk.1.2) (.bool t505)) (fun _ hk => hk.1.2) (.int .i64 t506)) (fun _ hk => hk.1.2) (.int .i64 t507)) (fun _ hk => hk.1.2) (.int .i64 t508)) (fun _ hk => hk.2) (.int .i64 t497)) (fun _ hk => hk.2) (.int .i64 t498)) (fun _ hk => hk.2) (.slice Ao45 t499.length co45)) (fun _ hk => hk.2) (.slice Ao47 t502.length co47)) (fun _ hk => ⟨hk.1.1.1.1, ⟨hk.1.1.1.2.1, ⟨hk.1.1.1.2.2.1, ⟨hk.1.1.1.2.2.2.1, ⟨hk.1.1.1.2.2.2.2.1, hk.1.1.1.2.2.2.2.2⟩⟩⟩⟩⟩)))⟩; replace HO501 : Aside0 (Kd.V (Kd.int .i64) 3 w60 w.heap.size (fun k_ => some k_ ≠ (u8 : Value).ownBlock ∧ some k_ ≠ (u9 : Value).ownBlock ∧ k_ ≠ gb486 ∧ k_ ≠ gb489 ∧ k_ ≠ gb509 ∧ k_ ≠ gb510) (.slice Ao45 t499.length co45) t499) := ⟨(by rw [hw]; exact (by (with_reducible repeat (first | apply Kd.V_alloc | apply Kd.V_drewN | apply Kd.V_drew)); exact Kd.V_mono (Kd.V_far (p := ⟨gb489, 3, none⟩) (Kd.V_far (p := ⟨gb489, 2, none⟩) (Kd.V_far (p := ⟨gb489, 1, none⟩) (Kd.V_far (p := ⟨gb489, 0, none⟩) (Kd.V_far (p := ⟨gb510, 3, none⟩) (Kd.V_far (p := ⟨gb510, 2, none⟩) (Kd.V_far (p := ⟨gb510, 1, none⟩) (Kd.V_far (p := ⟨gb510, 0, none⟩) (Kd.V_far (p := ⟨gb509, 3, none⟩) (Kd.V_far (p := ⟨gb509, 2, none⟩) (Kd.V_far (p := ⟨gb509, 1, none⟩) (Kd.V_far (p := ⟨gb509, 0, none⟩) (Kd.V_mono (Kd.V_mono (Kd.V_mono HO501.out (fun k_ hk => (⟨hk, hk.2.2.2.2.1⟩ : _ ∧ k_ ≠ gb509))) (fun k_ hk => (⟨hk, hk.1.2.2.2.2.2⟩ : _ ∧ k_ ≠ gb510))) (fun k_ hk => (⟨hk, hk.1.1.2.2.2.1⟩ : _ ∧ k_ ≠ gb489))) (fun _ hk => hk.1.1.2) (.int .i64 t497)) (fun _ hk => hk.1.1.2) (.int .i64 t498)) (fun _ hk => hk.1.1.2) (.slice Ao45 t499.length co45)) (fun _ hk => hk.1.1.2) (.slice Ao47 t502.length co47)) (fun _ hk => hk.1.2) (.bool t505)) (fun _ hk => hk.1.2) (.int .i64 t506)) (fun _ hk => hk.1.2) (.int .i64 t507)) (fun _ hk => hk.1.2) (.int .i64 t508)) (fun _ hk => hk.2) (.int .i64 t497)) (fun _ hk => hk.2) (.int .i64 t498)) (fun _ hk => hk.2) (.slice Ao45 t499.length co45)) (fun _ hk => hk.2) (.slice Ao47 t502.length co47)) (fun _ hk => ⟨hk.1.1.1.1, ⟨hk.1.1.1.2.1, ⟨hk.1.1.1.2.2.1, ⟨hk.1.1.1.2.2.2.1, ⟨hk.1.1.1.2.2.2.2.1, hk.1.1.1.2.2.2.2.2⟩⟩⟩⟩⟩)))⟩; replace HO504 : Aside0 (Kd.V k54 54 w60 w.heap.size (fun k_ => some k_ ≠ (u8 : Value).ownBlock ∧ some k_ ≠ (u9 : Value).ownBlock ∧ k_ ≠ gb486 ∧ k_ ≠ gb489 ∧ k_ ≠ gb509 ∧ k_ ≠ gb510) (.slice Ao47 t502.length co47) t502) := ⟨(by rw [hw]; exact (by (with_reducible repeat (first | apply Kd.V_alloc | apply Kd.V_drewN | apply Kd.V_drew)); exact Kd.V_mono (Kd.V_far (p := ⟨gb489, 3, none⟩) (Kd.V_far (p := ⟨gb489, 2, none⟩) (Kd.V_far (p := ⟨gb489, 1, none⟩) (Kd.V_far (p := ⟨gb489, 0, none⟩) (Kd.V_far (p := ⟨gb510, 3, none⟩) (Kd.V_far (p := ⟨gb510, 2, none⟩) (Kd.V_far (p := ⟨gb510, 1, none⟩) (Kd.V_far (p := ⟨gb510, 0, none⟩) (Kd.V_far (p := ⟨gb509, 3, none⟩) (Kd.V_far (p := ⟨gb509, 2, none⟩) (Kd.V_far (p := ⟨gb509, 1, none⟩) (Kd.V_far (p := ⟨gb509, 0, none⟩) (Kd.V_mono (Kd.V_mono (Kd.V_mono HO504.out (fun k_ hk => (⟨hk, hk.2.2.2.2.1⟩ : _ ∧ k_ ≠ gb509))) (fun k_ hk => (⟨hk, hk.1.2.2.2.2.2⟩ : _ ∧ k_ ≠ gb510))) (fun k_ hk => (⟨hk, hk.1.1.2.2.2.1⟩ : _ ∧ k_ ≠ gb489))) (fun _ hk => hk.1.1.2) (.int .i64 t497)) (fun _ hk => hk.1.1.2) (.int .i64 t498)) (fun _ hk => hk.1.1.2) (.slice Ao45 t499.length co45)) (fun _ hk => hk.1.1.2) (.slice Ao47 t502.length co47)) (fun _ hk => hk.1.2) (.bool t505)) (fun _ hk => hk.1.2) (.int .i64 t506)) (fun _ hk => hk.1.2) (.int .i64 t507)) (fun _ hk => hk.1.2) (.int .i64 t508)) (fun _ hk => hk.2) (.int .i64 t497)) (fun _ hk => hk.2) (.int .i64 t498)) (fun _ hk => hk.2) (.slice Ao45 t499.length co45)) (fun _ hk => hk.2) (.slice Ao47 t502.length co47)) (fun _ hk => ⟨hk.1.1.1.1, ⟨hk.1.1.1.2.1, ⟨hk.1.1.1.2.2.1, ⟨hk.1.1.1.2.2.2.1, ⟨hk.1.1.1.2.2.2.2.1, hk.1.1.1.2.2.2.2.2⟩⟩⟩⟩⟩)))⟩; replace BK486 : Aside0 (w60.heap[gb486]? = some (.cells #[.int .i64 a0_0, .int .i64 a0_1, .int .i64 a0_2, .int .i64 a0_3] 23 (0, 0))) := ⟨(by rw [hw]; exact (by (with_reducible repeat (first | refine blk_drewN ?_ _ | refine blk_drew ?_ | refine blk_alloc ?_ _)); refine blk_far ?_ NB486_489.out _; (with_reducible repeat (first | refine blk_drewN ?_ _ | refine blk_drew ?_ | refine blk_alloc ?_ _)); refine blk_far ?_ NB486_489.out _; (with_reducible repeat (first | refine blk_drewN ?_ _ | refine blk_drew ?_ | refine blk_alloc ?_ _)); refine blk_far ?_ NB486_489.out _; (with_reducible repeat (first | refine blk_drewN ?_ _ | refine blk_drew ?_ | refine blk_alloc ?_ _)); refine blk_far ?_ NB486_489.out _; (with_reducible repeat (first | refine blk_drewN ?_ _ | refine blk_drew ?_ | refine blk_alloc ?_ _)); refine blk_far ?_ NB486_510.out _; (with_reducible repeat (first | refine blk_drewN ?_ _ | refine blk_drew ?_ | refine blk_alloc ?_ _)); refine blk_far ?_ NB486_510.out _; (with_reducible repeat (first | refine blk_drewN ?_ _ | refine blk_drew ?_ | refine blk_alloc ?_ _)); refine blk_far ?_ NB486_510.out _; (with_reducible repeat (first | refine blk_drewN ?_ _ | refine blk_drew ?_ | refine blk_alloc ?_ _)); refine blk_far ?_ NB486_510.out _; (with_reducible repeat (first | refine blk_drewN ?_ _ | refine blk_drew ?_ | refine blk_alloc ?_ _)); refine blk_far ?_ NB486_509.out _; (with_reducible repeat (first | refine blk_drewN ?_ _ | refine blk_drew ?_ | refine blk_alloc ?_ _)); refine blk_far ?_ NB486_509.out _; (with_reducible repeat (first | refine blk_drewN ?_ _ | refine blk_drew ?_ | refine blk_alloc ?_ _)); refine blk_far ?_ NB486_509.out _; (with_reducible repeat (first | refine blk_drewN ?_ _ | refine blk_drew ?_ | refine blk_alloc ?_ _)); refine blk_far ?_ NB486_509.out _; (with_reducible repeat (first | refine blk_drewN ?_ _ | refine blk_drew ?_ | refine blk_alloc ?_ _)); exact BK486.out))⟩; replace BK489 : Aside0 (w60.heap[gb489]? = some (.cells #[.int .i64 t497, .int .i64 t498, .slice Ao45 t499.length co45, .slice Ao47 t502.length co47] 27 (0, 0))) := ⟨(by rw [hw]; exact (by (with_reducible repeat (first | refine blk_drewN ?_ _ | refine blk_drew ?_ | refine blk_alloc ?_ _)); refine blk_put (cs := #[.int .i64 t497, .int .i64 t498, .slice Ao45 t499.length co45, .slice Ao37 x490003_2.length co37]) ?_ 3 _ rfl; (with_reducible repeat (first | refine blk_drewN ?_ _ | refine blk_drew ?_ | refine blk_alloc ?_ _)); refine blk_put (cs := #[.int .i64 t497, .int .i64 t498, .slice Ao36 x490002_2.length co36, .slice Ao37 x490003_2.length co37]) ?_ 2 _ rfl; (with_reducible repeat (first | refine blk_drewN ?_ _ | refine blk_drew ?_ | refine blk_alloc ?_ _)); refine blk_put (cs := #[.int .i64 t497, .int .i64 x490001_2, .slice Ao36 x490002_2.length co36, .slice Ao37 x490003_2.length co37]) ?_ 1 _ rfl; (with_reducible repeat (first | refine blk_drewN ?_ _ | refine blk_drew ?_ | refine blk_alloc ?_ _)); refine blk_put (cs := #[.int .i64 x490000_2, .int .i64 x490001_2, .slice Ao36 x490002_2.length co36, .slice Ao37 x490003_2.length co37]) ?_ 0 _ rfl; (with_reducible repeat (first | refine blk_drewN ?_ _ | refine blk_drew ?_ | refine blk_alloc ?_ _)); refine blk_far ?_ NB489_510.out _; (with_reducible repeat (first | refine blk_drewN ?_ _ | refine blk_drew ?_ | refine blk_alloc ?_ _)); refine blk_far ?_ NB489_510.out _; (with_reducible repeat (first | refine blk_drewN ?_ _ | refine blk_drew ?_ | refine blk_alloc ?_ _)); refine blk_far ?_ NB489_510.out _; (with_reducible repeat (first | refine blk_drewN ?_ _ | refine blk_drew ?_ | refine blk_alloc ?_ _)); refine blk_far ?_ NB489_510.out _; (with_reducible repeat (first | refine blk_drewN ?_ _ | refine blk_drew ?_ | refine blk_alloc ?_ _)); refine blk_far ?_ NB489_509.out _; (with_reducible repeat (first | refine blk_drewN ?_ _ | refine blk_drew ?_ | refine blk_alloc ?_ _)); refine blk_far ?_ NB489_509.out _; (with_reducible repeat (first | refine blk_drewN ?_ _ | refine blk_drew ?_ | refine blk_alloc ?_ _)); refine blk_far ?_ NB489_509.out _; (with_reducible repeat (first | refine blk_drewN ?_ _ | refine blk_drew ?_ | refine blk_alloc ?_ _)); refine blk_far ?_ NB489_509.out _; (with_reducible repeat (first | refine blk_drewN ?_ _ | refine blk_drew ?_ | refine blk_alloc ?_ _)); exact BK489.out))⟩; replace BK509 : Aside0 (w60.heap[gb509]? = some (.cells #[.int .i64 t497, .int .i64 t498, .slice Ao45 t499.length co45, .slice Ao47 t502.length co47] 27 (0, 0))) := ⟨(by rw [hw]; exact (by (with_reducible repeat (first | refine blk_drewN ?_ _ | refine blk_drew ?_ | refine blk_alloc ?_ _)); refine blk_far ?_ NB509_489.out _; (with_reducible repeat (first | refine blk_drewN ?_ _ | refine blk_drew ?_ | refine blk_alloc ?_ _)); refine blk_far ?_ NB509_489.out _; (with_reducible repeat (first | refine blk_drewN ?_ _ | refine blk_drew ?_ | refine blk_alloc ?_ _)); refine blk_far ?_ NB509_489.out _; (with_reducible repeat (first | refine blk_drewN ?_ _ | refine blk_drew ?_ | refine blk_alloc ?_ _)); refine blk_far ?_ NB509_489.out _; (with_reducible repeat (first | refine blk_drewN ?_ _ | refine blk_drew ?_ | refine blk_alloc ?_ _)); refine blk_far ?_ NB509_510.out _; (with_reducible repeat (first | refine blk_drewN ?_ _ | refine blk_drew ?_ | refine blk_alloc ?_ _)); refine blk_far ?_ NB509_510.out _; (with_reducible repeat (first | refine blk_drewN ?_ _ | refine blk_drew ?_ | refine blk_alloc ?_ _)); refine blk_far ?_ NB509_510.out _; (with_reducible repeat (first | refine blk_drewN ?_ _ | refine blk_drew ?_ | refine blk_alloc ?_ _)); refine blk_far ?_ NB509_510.out _; (with_reducible repeat (first | refine blk_drewN ?_ _ | refine blk_drew ?_ | refine blk_alloc ?_ _)); refine blk_put (cs := #[.int .i64 t497, .int .i64 t498, .slice Ao45 t499.length co45, .slice none 0 0]) ?_ 3 _ rfl; (with_reducible repeat (first | refine blk_drewN ?_ _ | refine blk_drew ?_ | refine blk_alloc ?_ _)); refine blk_put (cs := #[.int .i64 t497, .int .i64 t498, .slice none 0 0, .slice none 0 0]) ?_ 2 _ rfl; (with_reducible repeat (first | refine blk_drewN ?_ _ | refine blk_drew ?_ | refine blk_alloc ?_ _)); refine blk_put (cs := #[.int .i64 t497, .int .i64 0, .slice none 0 0, .slice none 0 0]) ?_ 1 _ rfl; (with_reducible repeat (first | refine blk_drewN ?_ _ | refine blk_drew ?_ | refine blk_alloc ?_ _)); refine blk_put (cs := #[.int .i64 0, .int .i64 0, .slice none 0 0, .slice none 0 0]) ?_ 0 _ rfl; (with_reducible repeat (first | refine blk_drewN ?_ _ | refine blk_drew ?_ | refine blk_alloc ?_ _)); exact BK509.out))⟩; replace BK510 : Aside0 (w60.heap[gb510]? = some (.cells #[.bool t505, .int .i64 t506, .int .i64 t507, .int .i64 t508] 32 (0, 0))) := ⟨(by rw [hw]; exact (by (with_reducible repeat (first | refine blk_drewN ?_ _ | refine blk_drew ?_ | refine blk_alloc ?_ _)); refine blk_far ?_ NB510_489.out _; (with_reducible repeat (first | refine blk_drewN ?_ _ | refine blk_drew ?_ | refine blk_alloc ?_ _)); refine blk_far ?_ NB510_489.out _; (with_reducible repeat (first | refine blk_drewN ?_ _ | refine blk_drew ?_ | refine blk_alloc ?_ _)); refine blk_far ?_ NB510_489.out _; (with_reducible repeat (first | refine blk_drewN ?_ _ | refine blk_drew ?_ | refine blk_alloc ?_ _)); refine blk_far ?_ NB510_489.out _; (with_reducible repeat (first | refine blk_drewN ?_ _ | refine blk_drew ?_ | refine blk_alloc ?_ _)); refine blk_put (cs := #[.bool t505, .int .i64 t506, .int .i64 t507, .int .i64 0]) ?_ 3 _ rfl; (with_reducible repeat (first | refine blk_drewN ?_ _ | refine blk_drew ?_ | refine blk_alloc ?_ _)); refine blk_put (cs := #[.bool t505, .int .i64 t506, .int .i64 0, .int .i64 0]) ?_ 2 _ rfl; (with_reducible repeat (first | refine blk_drewN ?_ _ | refine blk_drew ?_ | refine blk_alloc ?_ _)); refine blk_put (cs := #[.bool t505, .int .i64 0, .int .i64 0, .int .i64 0]) ?_ 1 _ rfl; (with_reducible repeat (first | refine blk_drewN ?_ _ | refine blk_drew ?_ | refine blk_alloc ?_ _)); refine blk_put (cs := #[.bool false, .int .i64 0, .int .i64 0, .int .i64 0]) ?_ 0 _ rfl; (with_reducible repeat (first | refine blk_drewN ?_ _ | refine blk_drew ?_ | refine blk_alloc ?_ _)); refine blk_far ?_ NB510_509.out _; (with_reducible repeat (first | refine blk_drewN ?_ _ | refine blk_drew ?_ | refine blk_alloc ?_ _)); refine blk_far ?_ NB510_509.out _; (with_reducible repeat (first | refine blk_drewN ?_ _ | refine blk_drew ?_ | refine blk_alloc ?_ _)); refine blk_far ?_ NB510_509.out _; (with_reducible repeat (first | refine blk_drewN ?_ _ | refine blk_drew ?_ | refine blk_alloc ?_ _)); refine blk_far ?_ NB510_509.out _; (with_reducible repeat (first | refine blk_drewN ?_ _ | refine blk_drew ?_ | refine blk_alloc ?_ _)); exact BK510.out))⟩; replace HB : Aside0 (Below w.heap.size w w60) := ⟨(by rw [hw]; exact (bl HB))⟩; clear hw) | ((with_reducible refine gate_builtin (b := .append) (xs := #[.tmp 87, .tmp 89]) rfl ?_); at_builtin; refine Kd.R_append (Kd.int .i64) (w0 := w) w.heap.size rfl (.tmp 87) (.tmp 89) 24 3 (.int .i64 0) 8 rfl Try.underlying24 info3 rfl (by decide) (by omega) u8 x8_2 (wrap64 (x6_2 + ((rd_T45 l1 x10_2).f0))) [.int .i64 (wrap64 (x6_2 + ((rd_T45 l1 x10_2).f0)))] (fun k_ => some k_ ≠ (u9 : Value).ownBlock) (fun _ => False) rfl rfl ?aP (fun _ hk => hk.elim) ?aF ?aO ?aB ?aS ?aL ?_; (case aP => exact rfl); (case aB => exact (bl HB)); (case aF => exact (fun k_ hk => Kd.fresh' (Kd.R_lt (by (with_reducible repeat (first | apply Kd.R_alloc | apply Kd.R_drewN | apply Kd.R_drew)); exact HO_9.out)) k_ hk)); (case aO => exact (by (with_reducible repeat (first | apply Kd.R_alloc | apply Kd.R_drewN | apply Kd.R_drew)); exact HO_8.out)); (case aS => exact (below_size (bl HB))); (case aL => have := LMc34.out; omega); intro v512 w61 ho hb hg hat; rw [← Ny511.out] at ho; have HO513 := Aside0.mk (ho); replace HO_9 := Aside0.mk (Kd.R_after (ok := (fun _ => True)) (by (with_reducible repeat (first | apply Kd.R_alloc | apply Kd.R_drewN | apply Kd.R_drew)); exact Kd.R_mono HO_9.out (fun _ hk => ⟨trivial, hk⟩)) hg hat); replace HO_490002 := Aside0.mk (Kd.V_afterv (ok := (fun k_ => some k_ ≠ (u9 : Value).ownBlock ∧ k_ ≠ gb486 ∧ k_ ≠ gb489 ∧ k_ ≠ gb509 ∧ k_ ≠ gb510)) (by (with_reducible repeat (first | apply Kd.V_alloc | apply Kd.V_drewN | apply Kd.V_drew)); exact Kd.V_mono HO_490002.out (fun _ hk => ⟨⟨hk.2.1, ⟨hk.2.2.1, ⟨hk.2.2.2.1, ⟨hk.2.2.2.2.1, hk.2.2.2.2.2⟩⟩⟩⟩, hk.1⟩)) hg hat); replace HO_490003 := Aside0.mk (Kd.V_afterv (ok := (fun k_ => some k_ ≠ (u9 : Value).ownBlock ∧ k_ ≠ gb486 ∧ k_ ≠ gb489 ∧ k_ ≠ gb509 ∧ k_ ≠ gb510)) (by (with_reducible repeat (first | apply Kd.V_alloc | apply Kd.V_drewN | apply Kd.V_drew)); exact Kd.V_mono HO_490003.out (fun _ hk => ⟨⟨hk.2.1, ⟨hk.2.2.1, ⟨hk.2.2.2.1, ⟨hk.2.2.2.2.1, hk.2.2.2.2.2⟩⟩⟩⟩, hk.1⟩)) hg hat); replace BK486 := Aside0.mk (blk_grown (g := gb486) (o := .cells #[.int .i64 a0_0, .int .i64 a0_1, .int .i64 a0_2, .int .i64 a0_3] 23 (0, 0)) (bo BK486) hg (Kd.R_ne HO_8.out BK486.out (by decide))); replace BK489 := Aside0.mk (blk_grown (g := gb489) (o := .cells #[.int .i64 t497, .int .i64 t498, .slice Ao45 t499.length co45, .slice Ao47 t502.length co47] 27 (0, 0)) (bo BK489) hg (Kd.R_ne HO_8.out BK489.out (by decide))); replace HO501 := Aside0.mk (Kd.V_afterv (ok := (fun k_ => some k_ ≠ (u9 : Value).ownBlock ∧ k_ ≠ gb486 ∧ k_ ≠ gb489 ∧ k_ ≠ gb509 ∧ k_ ≠ gb510)) (by (with_reducible repeat (first | apply Kd.V_alloc | apply Kd.V_drewN | apply Kd.V_drew)); exact Kd.V_mono HO501.out (fun _ hk => ⟨⟨hk.2.1, ⟨hk.2.2.1, ⟨hk.2.2.2.1, ⟨hk.2.2.2.2.1, hk.2.2.2.2.2⟩⟩⟩⟩, hk.1⟩)) hg hat); replace HO504 := Aside0.mk (Kd.V_afterv (ok := (fun k_ => some k_ ≠ (u9 : Value).ownBlock ∧ k_ ≠ gb486 ∧ k_ ≠ gb489 ∧ k_ ≠ gb509 ∧ k_ ≠ gb510)) (by (with_reducible repeat (first | apply Kd.V_alloc | apply Kd.V_drewN | apply Kd.V_drew)); exact Kd.V_mono HO504.out (fun _ hk => ⟨⟨hk.2.1, ⟨hk.2.2.1, ⟨hk.2.2.2.1, ⟨hk.2.2.2.2.1, hk.2.2.2.2.2⟩⟩⟩⟩, hk.1⟩)) hg hat); replace BK509 := Aside0.mk (blk_grown (g := gb509) (o := .cells #[.int .i64 t497, .int .i64 t498, .slice Ao45 t499.length co45, .slice Ao47 t502.length co47] 27 (0, 0)) (bo BK509) hg (Kd.R_ne HO_8.out BK509.out (by decide))); replace BK510 := Aside0.mk (blk_grown (g := gb510) (o := .cells #[.bool t505, .int .i64 t506, .int .i64 t507, .int .i64 t508] 32 (0, 0)) (bo BK510) hg (Kd.R_ne HO_8.out BK510.out (by decide))); replace HB := Aside0.mk (hb); clear HO_8; clear ho hb hg hat; have hnb62 := NB510_486.out; have hnc62 := NB486_510.out; obtain ⟨hcz63_0, hcz63_1, hcz63_2, hcz63_3⟩ := ce4 BK510; obtain ⟨hfz63_0, hfz63_1, hfz63_2, hfz63_3⟩ := fr4 BK510))
              (try simp only [Act.put, List.setIfInBounds_toArray, List.set_cons_zero, List.set_cons_succ])
              go_cut [13] (fun v13 wc => ∃ (kq : Nat) (x13_34 : Int), v13 = .int .i64 x13_34 ∧ Aside0 (sandglasslaw12_RingRate.j3 kq l1 (wrap64 (x6_2 + ((rd_T45 l1 x10_2).f0))) (wrap64 (Int.tdiv a0_2 a0_3)) y511 x9_2 x10_2 x13_34 a0_0 a0_1 a0_2 a0_3 t497 t498 t499 t502 t505 t506 t507 t508 = some r) ∧ Aside0 (kq ≤ kj22) ∧ Aside0 (Kd.R (Kd.int .i64) 3 wc w.heap.size (fun k_ => some k_ ≠ (u9 : Value).ownBlock) v512 y511) ∧ Aside0 (Kd.R (Kd.int .i64) 3 wc w.heap.size (fun k_ => some k_ ≠ (v512 : Value).ownBlock) u9 x9_2) ∧ Aside0 (Kd.V (Kd.int .i64) 3 wc w.heap.size (fun k_ => some k_ ≠ (v512 : Value).ownBlock ∧ some k_ ≠ (u9 : Value).ownBlock ∧ k_ ≠ gb486 ∧ k_ ≠ gb489 ∧ k_ ≠ gb509 ∧ k_ ≠ gb510) (.slice Ao45 t499.length co45) t499) ∧ Aside0 (Kd.V k54 54 wc w.heap.size (fun k_ => some k_ ≠ (v512 : Value).ownBlock ∧ some k_ ≠ (u9 : Value).ownBlock ∧ k_ ≠ gb486 ∧ k_ ≠ gb489 ∧ k_ ≠ gb509 ∧ k_ ≠ gb510) (.slice Ao47 t502.length co47) t502) ∧ Aside0 (Kd.V (Kd.int .i64) 3 wc w.heap.size (fun k_ => some k_ ≠ (v512 : Value).ownBlock ∧ some k_ ≠ (u9 : Value).ownBlock ∧ k_ ≠ gb486 ∧ k_ ≠ gb489 ∧ k_ ≠ gb509 ∧ k_ ≠ gb510) (.slice Ao45 t499.length co45) t499) ∧ Aside0 (Kd.V k54 54 wc w.heap.size (fun k_ => some k_ ≠ (v512 : Value).ownBlock ∧ some k_ ≠ (u9 : Value).ownBlock ∧ k_ ≠ gb486 ∧ k_ ≠ gb489 ∧ k_ ≠ gb509 ∧ k_ ≠ gb510) (.slice Ao47 t502.length co47) t502) ∧ Aside0 (wc.heap[gb486]? = some (.cells #[.int .i64 a0_0, .int .i64 a0_1, .int .i64 a0_2, .int .i64 a0_3] 23 (0, 0))) ∧ Aside0 (wc.heap[gb489]? = some (.cells #[.int .i64 t497, .int .i64 t498, (.slice Ao45 t499.length co45), (.slice Ao47 t502.length co47)] 27 (0, 0))) ∧ Aside0 (wc.heap[gb509]? = some (.cells #[.int .i64 t497, .int .i64 t498, (.slice Ao45 t499.length co45), (.slice Ao47 t502.length co47)] 27 (0, 0))) ∧ Aside0 (wc.heap[gb510]? = some (.cells #[.bool t505, .int .i64 t506, .int .i64 t507, .int .i64 t508] 32 (0, 0))) ∧ Aside0 (Below w.heap.size w wc))
              case first =>
               have H := HC35.out
               clear HC35
               by_cases c64 : t505 = true
               ·subst c64
                rw [if_pos rfl] at H
                have H' := Aside0.mk H
                clear H
                have p514 : 0 ≤ (x10_2 : Int) := of_decide_eq_true (by first | (with_reducible assumption) | assumption)
                have q514 : x10_2 < (l1.length : Int) := of_decide_eq_true (by first | (with_reducible assumption) | assumption)
                obtain ⟨ad514, e514, hx514_0, hx514_1⟩ := at_T45 HR1.out x10_2 p514 q514
                obtain rfl : ad495 = ad514 := (by injection e514)
                replace hx514_0 := (HB.out.cell (World.block_lt_of_cell? w _ hx514_0)).trans hx514_0
                replace hx514_1 := (HB.out.cell (World.block_lt_of_cell? w _ hx514_1)).trans hx514_1
                replace p514 := eq_true p514
                replace q514 := eq_true q514
                go_wp2
                go_meet
                case rel => exact ⟨_, ((rd_T45 l1 x10_2).f1), (by first | (with_reducible rfl) | rfl | (simp; done) | (simp [*]; done)), H', ⟨by have := HJ2.out; have := HK2.out; have := HJ22.out; first | omega | exact Nat.le_refl _⟩, ⟨by (with_reducible repeat (first | apply Kd.R_alloc | apply Kd.R_drewN | apply Kd.R_drew)); exact HO513.out⟩, ⟨by (with_reducible repeat (first | apply Kd.R_alloc | apply Kd.R_drewN | apply Kd.R_drew)); exact Kd.R_mono HO_9.out (fun _ hk => hk.2)⟩, ⟨by (with_reducible repeat (first | apply Kd.V_alloc | apply Kd.V_drewN | apply Kd.V_drew)); exact Kd.V_mono HO501.out (fun _ hk => ⟨hk.2, ⟨hk.1.1, ⟨hk.1.2.1, ⟨hk.1.2.2.1, ⟨hk.1.2.2.2.1, hk.1.2.2.2.2⟩⟩⟩⟩⟩)⟩, ⟨by (with_reducible repeat (first | apply Kd.V_alloc | apply Kd.V_drewN | apply Kd.V_drew)); exact Kd.V_mono HO504.out (fun _ hk => ⟨hk.2, ⟨hk.1.1, ⟨hk.1.2.1, ⟨hk.1.2.2.1, ⟨hk.1.2.2.2.1, hk.1.2.2.2.2⟩⟩⟩⟩⟩)⟩, ⟨by (with_reducible repeat (first | apply Kd.V_alloc | apply Kd.V_drewN | apply Kd.V_drew)); exact Kd.V_mono HO501.out (fun _ hk => ⟨hk.2, ⟨hk.1.1, ⟨hk.1.2.1, ⟨hk.1.2.2.1, ⟨hk.1.2.2.2.1, hk.1.2.2.2.2⟩⟩⟩⟩⟩)⟩, ⟨by (with_reducible repeat (first | apply Kd.V_alloc | apply Kd.V_drewN | apply Kd.V_drew)); exact Kd.V_mono HO504.out (fun _ hk => ⟨hk.2, ⟨hk.1.1, ⟨hk.1.2.1, ⟨hk.1.2.2.1, ⟨hk.1.2.2.2.1, hk.1.2.2.2.2⟩⟩⟩⟩⟩)⟩, ⟨bo BK486⟩, ⟨bo BK489⟩, ⟨bo BK509⟩, ⟨bo BK510⟩, ⟨bl HB⟩⟩
               ·replace c64 := Bool.eq_false_iff.mpr c64
                subst c64
                rw [if_neg (show ¬ (false = true) by decide)] at H
                have H' := Aside0.mk H
                clear H
                go_wp2
                go_meet
                case rel => exact ⟨_, (0), (by first | (with_reducible rfl) | rfl | (simp; done) | (simp [*]; done)), H', ⟨by have := HJ2.out; have := HK2.out; have := HJ22.out; first | omega | exact Nat.le_refl _⟩, ⟨by (with_reducible repeat (first | apply Kd.R_alloc | apply Kd.R_drewN | apply Kd.R_drew)); exact HO513.out⟩, ⟨by (with_reducible repeat (first | apply Kd.R_alloc | apply Kd.R_drewN | apply Kd.R_drew)); exact Kd.R_mono HO_9.out (fun _ hk => hk.2)⟩, ⟨by (with_reducible repeat (first | apply Kd.V_alloc | apply Kd.V_drewN | apply Kd.V_drew)); exact Kd.V_mono HO501.out (fun _ hk => ⟨hk.2, ⟨hk.1.1, ⟨hk.1.2.1, ⟨hk.1.2.2.1, ⟨hk.1.2.2.2.1, hk.1.2.2.2.2⟩⟩⟩⟩⟩)⟩, ⟨by (with_reducible repeat (first | apply Kd.V_alloc | apply Kd.V_drewN | apply Kd.V_drew)); exact Kd.V_mono HO504.out (fun _ hk => ⟨hk.2, ⟨hk.1.1, ⟨hk.1.2.1, ⟨hk.1.2.2.1, ⟨hk.1.2.2.2.1, hk.1.2.2.2.2⟩⟩⟩⟩⟩)⟩, ⟨by (with_reducible repeat (first | apply Kd.V_alloc | apply Kd.V_drewN | apply Kd.V_drew)); exact Kd.V_mono HO501.out (fun _ hk => ⟨hk.2, ⟨hk.1.1, ⟨hk.1.2.1, ⟨hk.1.2.2.1, ⟨hk.1.2.2.2.1, hk.1.2.2.2.2⟩⟩⟩⟩⟩)⟩, ⟨by (with_reducible repeat (first | apply Kd.V_alloc | apply Kd.V_drewN | apply Kd.V_drew)); exact Kd.V_mono HO504.out (fun _ hk => ⟨hk.2, ⟨hk.1.1, ⟨hk.1.2.1, ⟨hk.1.2.2.1, ⟨hk.1.2.2.2.1, hk.1.2.2.2.2⟩⟩⟩⟩⟩)⟩, ⟨bo BK486⟩, ⟨bo BK489⟩, ⟨bo BK509⟩, ⟨bo BK510⟩, ⟨bl HB⟩⟩
              case rest =>
               clear HC35
               try clear c1; try clear c5; try clear c34; try clear c64; try clear hcz56_0; try clear hcz56_1; try clear hcz56_2; try clear hcz56_3; try clear hcz59_0; try clear hcz59_1; try clear hcz59_2; try clear hcz59_3; try clear hcz63_0; try clear hcz63_1; try clear hcz63_2; try clear hcz63_3; try clear hfz56_0; try clear hfz56_1; try clear hfz56_2; try clear hfz56_3; try clear hfz59_0; try clear hfz59_1; try clear hfz59_2; try clear hfz59_3; try clear hfz63_0; try clear hfz63_1; try clear hfz63_2; try clear hfz63_3; try clear hx514_0; try clear hx514_1; try clear p514; try clear q514
               obtain ⟨kq, x13_34, rfl, HA, HJ34, HO_8, HO_9, HO_490002, HO_490003, HO_510002, HO_510003, BK486, BK489, BK509, BK510, HB⟩ := hcut
               cases kq with
               | zero => exact absurd HA.out (by simp [sandglasslaw12_RingRate.j3])
               | succ kj34 =>
                have H := HA.out
                clear HA
                simp only [sandglasslaw12_RingRate.j3] at H
                by_cases c65 : x9_2.length < 17592186044416
                ·rw [if_pos c65] at H
                 have LMc65 := Aside0.mk c65
                 clear c65
                 obtain ⟨y515, hy515⟩ : ∃ y_ : List Int, y_ = (x9_2 ++ [x13_34]) := ⟨_, rfl⟩
                 replace H : (sandglasslaw12_RingRate.l1 kj34 l1 (wrap64 (x6_2 + ((rd_T45 l1 x10_2).f0))) (wrap64 (Int.tdiv a0_2 a0_3)) y511 y515 x10_2 0 0 0 a0_0 a0_1 a0_2 a0_3 t497 t498 t499 t502 t505 t506 t507 t508) = some r := by first | (rw [hy515]; with_reducible exact H) | (have H2_ := (Option.bind_some _ _).symm.trans H; rw [hy515]; with_reducible exact H2_) | (have H2_ := (Option.bind_some _ _).symm.trans H; with_reducible exact H2_) | with_reducible exact H | (rw [hy515]; exact H) | exact H
                 have Ny515 := Aside0.mk hy515
                 clear hy515
                 have H' := Aside0.mk H
                 clear H
                 go_wp2_with (first | ((with_reducible refine gate_builtin (b := .append) (xs := #[.tmp 98, .tmp 100]) rfl ?_); at_builtin; refine Kd.R_append (Kd.int .i64) (w0 := w) w.heap.size rfl (.tmp 98) (.tmp 100) 24 3 (.int .i64 0) 8 rfl Try.underlying24 info3 rfl (by decide) (by omega) u9 x9_2 x13_34 [.int .i64 x13_34] (fun k_ => some k_ ≠ (v512 : Value).ownBlock) (fun _ => False) rfl rfl ?aP (fun _ hk => hk.elim) ?aF ?aO ?aB ?aS ?aL ?_; (case aP => exact rfl); (case aB => exact (bl HB)); (case aF => exact (fun k_ hk => Kd.fresh' (Kd.R_lt (by (with_reducible repeat (first | apply Kd.R_alloc | apply Kd.R_drewN | apply Kd.R_drew)); exact HO_8.out)) k_ hk)); (case aO => exact (by (with_reducible repeat (first | apply Kd.R_alloc | apply Kd.R_drewN | apply Kd.R_drew)); exact HO_9.out)); (case aS => exact (below_size (bl HB))); (case aL => have := LMc65.out; omega); intro v516 w66 ho hb hg hat; rw [← Ny515.out] at ho; have HO517 := Aside0.mk (ho); replace HO_8 := Aside0.mk (Kd.R_after (ok := (fun _ => True)) (by (with_reducible repeat (first | apply Kd.R_alloc | apply Kd.R_drewN | apply Kd.R_drew)); exact Kd.R_mono HO_8.out (fun _ hk => ⟨trivial, hk⟩)) hg hat); replace HO_490002 := Aside0.mk (Kd.V_afterv (ok := (fun k_ => some k_ ≠ (v512 : Value).ownBlock ∧ k_ ≠ gb486 ∧ k_ ≠ gb489 ∧ k_ ≠ gb509 ∧ k_ ≠ gb510)) (by (with_reducible repeat (first | apply Kd.V_alloc | apply Kd.V_drewN | apply Kd.V_drew)); exact Kd.V_mono HO_490002.out (fun _ hk => ⟨⟨hk.1, ⟨hk.2.2.1, ⟨hk.2.2.2.1, ⟨hk.2.2.2.2.1, hk.2.2.2.2.2⟩⟩⟩⟩, hk.2.1⟩)) hg hat); replace HO_490003 := Aside0.mk (Kd.V_afterv (ok := (fun k_ => some k_ ≠ (v512 : Value).ownBlock ∧ k_ ≠ gb486 ∧ k_ ≠ gb489 ∧ k_ ≠ gb509 ∧ k_ ≠ gb510)) (by (with_reducible repeat (first | apply Kd.V_alloc | apply Kd.V_drewN | apply Kd.V_drew)); exact Kd.V_mono HO_490003.out (fun _ hk => ⟨⟨hk.1, ⟨hk.2.2.1, ⟨hk.2.2.2.1, ⟨hk.2.2.2.2.1, hk.2.2.2.2.2⟩⟩⟩⟩, hk.2.1⟩)) hg hat); replace HO_510002 := Aside0.mk (Kd.V_afterv (ok := (fun k_ => some k_ ≠ (v512 : Value).ownBlock ∧ k_ ≠ gb486 ∧ k_ ≠ gb489 ∧ k_ ≠ gb509 ∧ k_ ≠ gb510)) (by (with_reducible repeat (first | apply Kd.V_alloc | apply Kd.V_drewN | apply Kd.V_drew)); exact Kd.V_mono HO_510002.out (fun _ hk => ⟨⟨hk.1, ⟨hk.2.2.1, ⟨hk.2.2.2.1, ⟨hk.2.2.2.2.1, hk.2.2.2.2.2⟩⟩⟩⟩, hk.2.1⟩)) hg hat); replace HO_510003 := Aside0.mk (Kd.V_afterv (ok := (fun k_ => some k_ ≠ (v512 : Value).ownBlock ∧ k_ ≠ gb486 ∧ k_ ≠ gb489 ∧ k_ ≠ gb509 ∧ k_ ≠ gb510)) (by (with_reducible repeat (first | apply Kd.V_alloc | apply Kd.V_drewN | apply Kd.V_drew)); exact Kd.V_mono HO_510003.out (fun _ hk => ⟨⟨hk.1, ⟨hk.2.2.1, ⟨hk.2.2.2.1, ⟨hk.2.2.2.2.1, hk.2.2.2.2.2⟩⟩⟩⟩, hk.2.1⟩)) hg hat); replace BK486 := Aside0.mk (blk_grown (g := gb486) (o := .cells #[.int .i64 a0_0, .int .i64 a0_1, .int .i64 a0_2, .int .i64 a0_3] 23 (0, 0)) (bo BK486) hg (Kd.R_ne HO_9.out BK486.out (by decide))); replace BK489 := Aside0.mk (blk_grown (g := gb489) (o := .cells #[.int .i64 t497, .int .i64 t498, .slice Ao45 t499.length co45, .slice Ao47 t502.length co47] 27 (0, 0)) (bo BK489) hg (Kd.R_ne HO_9.out BK489.out (by decide))); replace BK509 := Aside0.mk (blk_grown (g := gb509) (o := .cells #[.int .i64 t497, .int .i64 t498, .slice Ao45 t499.length co45, .slice Ao47 t502.length co47] 27 (0, 0)) (bo BK509) hg (Kd.R_ne HO_9.out BK509.out (by decide))); replace BK510 := Aside0.mk (blk_grown (g := gb510) (o := .cells #[.bool t505, .int .i64 t506, .int .i64 t507, .int .i64 t508] 32 (0, 0)) (bo BK510) hg (Kd.R_ne HO_9.out BK510.out (by decide))); replace HB := Aside0.mk (hb); clear HO_9; clear ho hb hg hat))
                 clear hs43 hfs43 hns43_0 hns43_1 hns43_3 hms43_0 hms43_1 hms43_3 hs44 hfs44 hns44_0 hns44_1 hns44_3 hms44_0 hms44_1 hms44_3 hs46 hfs46 hns46_0 hns46_1 hns46_3 hms46_0 hms46_1 hms46_3 hs48 hfs48 hns48_0 hns48_1 hns48_3 hms48_0 hms48_1 hms48_3 hs49 hfs49 hns49_0 hns49_1 hns49_2 hms49_0 hms49_1 hms49_2 hs50 hfs50 hns50_0 hns50_1 hns50_2 hms50_0 hms50_1 hms50_2 hs51 hfs51 hns51_0 hns51_1 hns51_2 hms51_0 hms51_1 hms51_2 hs52 hfs52 hns52_0 hns52_1 hns52_2 hms52_0 hms52_1 hms52_2 hHeld hnb53 hnc53 hnb54 hnc54 hnb55 hnc55 hnb57 hnc57 hnb58 hnc58 hnb62 hnc62 hx495_0 hx495_1 hx496_0 hx496_1 e496 hnb18 hnc18
                 obtain ⟨A8_, c8_, rfl⟩ := Kd.R_slice HO_8.out
                 obtain ⟨A9_, c9_, rfl⟩ := Kd.R_slice HO517.out
                 have C8 := Aside0.mk (Kd.R_reads' HO_8.out).2.2
                 have C9 := Aside0.mk (Kd.R_reads' HO517.out).2.2
                 have pp1 : w66.cell? ⟨gb486, 1, none⟩ = some (.int .i64 a0_1) := (blk_cell BK486.out 1).trans rfl
                 have pp2 : w66.cell? ⟨gb486, 2, none⟩ = some (.int .i64 a0_2) := (blk_cell BK486.out 2).trans rfl
                 have pp3 : w66.cell? ⟨gb486, 3, none⟩ = some (.int .i64 a0_3) := (blk_cell BK486.out 3).trans rfl
                 have pv0 : w66.cell? ⟨gb510, 0, none⟩ = some (.bool t505) := (blk_cell BK510.out 0).trans rfl
                 have px1 : w66.cell? ⟨(ad495.add (x10_2.toNat * 2)).block, (ad495.add (x10_2.toNat * 2)).off + 1, none⟩ = some (.int .i64 (rd_T45 l1 x10_2).f1) := (HB.out.cell (World.block_lt_of_cell? w _ hw496_1)).trans hw496_1
                 go_loopg [14, 15, 16] kj34 (fun kq v14 v15 v16 w' => ∃ (x14_5 : Int) (x15_5 : Int) (x16_5 : Int), v14 = .int .i64 x14_5 ∧ v15 = .int .i64 x15_5 ∧ v16 = .int .i64 x16_5 ∧ Aside0 (sandglasslaw12_RingRate.l1 kq l1 (wrap64 (x6_2 + ((rd_T45 l1 x10_2).f0))) (wrap64 (Int.tdiv a0_2 a0_3)) y511 y515 x10_2 x14_5 x15_5 x16_5 a0_0 a0_1 a0_2 a0_3 t497 t498 t499 t502 t505 t506 t507 t508 = some r) ∧ Aside0 (kq ≤ kj34) ∧ Drawn0 w66 w')
                 case atStart => exact ⟨0, 0, 0, rfl, rfl, rfl, H', ⟨Nat.le_refl _⟩, Drawn0.refl _⟩
                 case round =>
                  clear H'
                  obtain ⟨x14_5, x15_5, x16_5, rfl, rfl, rfl, HA, HK5, ⟨nd, rfl⟩⟩ := hrel
                  cases gk with
                  | zero => exact absurd HA.out (by simp [sandglasslaw12_RingRate.l1])
                  | succ k5 =>
                   have H := HA.out
                   clear HA
                   simp only [sandglasslaw12_RingRate.l1] at H
                   by_cases c67 : x16_5 ≤ x10_2
                   ·rw [if_pos c67] at H
                    have c67b : decide (x16_5 ≤ x10_2) = true := decide_eq_true c67
                    clear c67
                    by_cases c69 : 0 ≤ x16_5
                    case neg => rw [if_neg c69] at H; cases H
                    by_cases c70 : x16_5 < (y511.length : Int)
                    case neg => rw [if_pos c69, if_neg c70] at H; cases H
                    rw [if_pos c69, if_pos c70] at H
                    obtain ⟨ad8, e8, y0⟩ := Kd.at_int C8.out x16_5 c69 c70
                    subst e8
                    have p69 := eq_true c69
                    have p70 := eq_true c70
                    have HC68 := Aside0.mk H
                    clear H
                    go_upto_region 26 with (fail)
                    go_cut [134] (fun v134 wc => ∃ (kq : Nat) (b : Bool), v134 = .bool b ∧ Aside0 (sandglasslaw12_RingRate.j5 kq l1 (wrap64 (x6_2 + ((rd_T45 l1 x10_2).f0))) (wrap64 (Int.tdiv a0_2 a0_3)) y511 y515 x10_2 x14_5 x15_5 x16_5 b a0_0 a0_1 a0_2 a0_3 t497 t498 t499 t502 t505 t506 t507 t508 = some r) ∧ Aside0 (kq ≤ k5) ∧ Drawn0 w66 wc)
                    case first =>
                     have H := HC68.out
                     clear HC68
                     by_cases c71 : (rd y511 x16_5) > (wrap64 ((wrap64 ((wrap64 (x6_2 + ((rd_T45 l1 x10_2).f0))) - a0_2)) + (wrap64 (Int.tdiv a0_2 a0_3))))
                     ·rw [if_pos c71] at H
                      have c71b : decide ((wrap64 ((wrap64 ((wrap64 (x6_2 + ((rd_T45 l1 x10_2).f0))) - a0_2)) + (wrap64 (Int.tdiv a0_2 a0_3)))) < (rd y511 x16_5)) = true := decide_eq_true c71
                      clear c71
                      have H' := Aside0.mk H
                      clear H
                      go_wp2
                      repeat (go_quiet (fail); try go_wp2)
                      go_meet
                      case rel => exact ⟨_, true, rfl, H', ⟨by have := HK5.out; omega⟩, by repeat (first | exact Drawn0.refl _ | apply Drawn0.step)⟩
                     rw [if_neg c71] at H
                     have c71b : decide ((wrap64 ((wrap64 ((wrap64 (x6_2 + ((rd_T45 l1 x10_2).f0))) - a0_2)) + (wrap64 (Int.tdiv a0_2 a0_3)))) < (rd y511 x16_5)) = false := decide_eq_false c71
                     clear c71
                     by_cases c72 : a0_3 = 1
                     case neg =>
                      rw [if_neg c72] at H
                      have c72b : (a0_3 == 1) = false := beq_eq_false_iff_ne.mpr c72
                      clear c72
                      have H' := Aside0.mk H
                      clear H
                      go_wp2
                      repeat (go_quiet (fail); try go_wp2)
                      go_meet
                      case rel => exact ⟨_, false, rfl, H', ⟨by have := HK5.out; omega⟩, by repeat (first | exact Drawn0.refl _ | apply Drawn0.step)⟩
                     rw [if_pos c72] at H
                     have c72b : (a0_3 == 1) = true := beq_iff_eq.mpr c72
                     clear c72
                     by_cases c73 : (wrap64 (Int.tdiv a0_2 a0_3)) = 0
                     case pos => rw [if_pos c73] at H; cases H
                     rw [if_neg c73] at H
                     have c73b : ((wrap64 (Int.tdiv a0_2 a0_3)) == 0) = false := beq_eq_false_iff_ne.mpr c73
                     have c73c : ((wrap64 (Int.tdiv a0_2 a0_3)) = 0) = False := eq_false c73
                     clear c73
                     by_cases c74 : ((wrap64 (Int.tdiv (rd y511 x16_5) (wrap64 (Int.tdiv a0_2 a0_3)))) == (wrap64 (Int.tdiv (wrap64 (x6_2 + ((rd_T45 l1 x10_2).f0))) (wrap64 (Int.tdiv a0_2 a0_3))))) = true
                     ·rw [c74] at H
                      have H' := Aside0.mk H
                      clear H
                      go_wp2
                      repeat (go_quiet (fail); try go_wp2)
                      go_meet
                      case rel => exact ⟨_, true, rfl, H', ⟨by have := HK5.out; omega⟩, by repeat (first | exact Drawn0.refl _ | apply Drawn0.step)⟩
                     ·rw [Bool.eq_false_iff.mpr c74] at H
                      replace c74 := Bool.eq_false_iff.mpr c74
                      have H' := Aside0.mk H
                      clear H
                      go_wp2
                      repeat (go_quiet (fail); try go_wp2)
                      go_meet
                      case rel => exact ⟨_, false, rfl, H', ⟨by have := HK5.out; omega⟩, by repeat (first | exact Drawn0.refl _ | apply Drawn0.step)⟩
                    case rest =>
                     clear HC68
                     obtain ⟨kq, b, rfl, HA, HJ5, ⟨nd2, rfl⟩⟩ := hcut
                     cases kq with
                     | zero => exact absurd HA.out (by simp [sandglasslaw12_RingRate.j5])
                     | succ kj5 =>
                      have H := HA.out
                      clear HA
                      simp only [sandglasslaw12_RingRate.j5] at H
                      have c69 : 0 ≤ x16_5 := of_eq_true p69
                      have c70 : x16_5 < (y511.length : Int) := of_eq_true p70
                      cases b
                      ·rw [if_neg (show ¬ (false = true) by decide)] at H
                       cases kj5 with
                       | zero => exact absurd H (by simp [sandglasslaw12_RingRate.j6])
                       | succ kj6 =>
                        simp only [sandglasslaw12_RingRate.j6] at H
                        rw [if_pos c69, if_pos c70] at H
                        by_cases c72 : (rd y511 x16_5) > (wrap64 ((wrap64 (x6_2 + ((rd_T45 l1 x10_2).f0))) - a0_2))
                        ·rw [if_pos c72] at H
                         by_cases c73 : x16_5 < (y515.length : Int)
                         case neg => rw [if_neg c73] at H; cases H
                         rw [if_pos c73] at H
                         have c72b : decide ((wrap64 ((wrap64 (x6_2 + ((rd_T45 l1 x10_2).f0))) - a0_2)) < (rd y511 x16_5)) = true := decide_eq_true c72
                         clear c72
                         obtain ⟨ad9, e9, y1⟩ := Kd.at_int C9.out x16_5 c69 c73
                         subst e9
                         have p73 := eq_true c73
                         have H' := Aside0.mk H
                         clear H
                         go_wp2
                         repeat (go_quiet (fail); try go_wp2)
                         go_roundg kj6
                         case measure => have := HJ5.out; omega
                         case rel => exact ⟨x14_5, (wrap64 (x15_5 + (rd y515 x16_5))), wrap64 (x16_5 + 1), rfl, rfl, rfl, H', ⟨by have := HK5.out; have := HJ5.out; omega⟩, by repeat (first | exact Drawn0.refl _ | apply Drawn0.step)⟩
                        ·rw [if_neg c72] at H
                         have c72b : decide ((wrap64 ((wrap64 (x6_2 + ((rd_T45 l1 x10_2).f0))) - a0_2)) < (rd y511 x16_5)) = false := decide_eq_false c72
                         clear c72
                         have H' := Aside0.mk H
                         clear H
                         go_wp2
                         repeat (go_quiet (fail); try go_wp2)
                         go_roundg kj6
                         case measure => have := HJ5.out; omega
                         case rel => exact ⟨x14_5, x15_5, wrap64 (x16_5 + 1), rfl, rfl, rfl, H', ⟨by have := HK5.out; have := HJ5.out; omega⟩, by repeat (first | exact Drawn0.refl _ | apply Drawn0.step)⟩
                      ·rw [if_pos rfl, if_pos c69] at H
                       by_cases c71 : x16_5 < (y515.length : Int)
                       case neg => rw [if_neg c71] at H; cases H
                       rw [if_pos c71] at H
                       obtain ⟨ad9, e9, y1⟩ := Kd.at_int C9.out x16_5 c69 c71
                       subst e9
                       have p71 := eq_true c71
                       cases kj5 with
                       | zero => exact absurd H (by simp [sandglasslaw12_RingRate.j6])
                       | succ kj6 =>
                        simp only [sandglasslaw12_RingRate.j6] at H
                        rw [if_pos c69, if_pos c70] at H
                        by_cases c72 : (rd y511 x16_5) > (wrap64 ((wrap64 (x6_2 + ((rd_T45 l1 x10_2).f0))) - a0_2))
                        ·rw [if_pos c72, if_pos c71] at H
                         have c72b : decide ((wrap64 ((wrap64 (x6_2 + ((rd_T45 l1 x10_2).f0))) - a0_2)) < (rd y511 x16_5)) = true := decide_eq_true c72
                         clear c72
                         have H' := Aside0.mk H
                         clear H
                         go_wp2
                         repeat (go_quiet (fail); try go_wp2)
                         go_roundg kj6
                         case measure => have := HJ5.out; omega
                         case rel => exact ⟨(wrap64 (x14_5 + (rd y515 x16_5))), (wrap64 (x15_5 + (rd y515 x16_5))), wrap64 (x16_5 + 1), rfl, rfl, rfl, H', ⟨by have := HK5.out; have := HJ5.out; omega⟩, by repeat (first | exact Drawn0.refl _ | apply Drawn0.step)⟩
                        ·rw [if_neg c72] at H
                         have c72b : decide ((wrap64 ((wrap64 (x6_2 + ((rd_T45 l1 x10_2).f0))) - a0_2)) < (rd y511 x16_5)) = false := decide_eq_false c72
                         clear c72
                         have H' := Aside0.mk H
                         clear H
                         go_wp2
                         repeat (go_quiet (fail); try go_wp2)
                         go_roundg kj6
                         case measure => have := HJ5.out; omega
                         case rel => exact ⟨(wrap64 (x14_5 + (rd y515 x16_5))), x15_5, wrap64 (x16_5 + 1), rfl, rfl, rfl, H', ⟨by have := HK5.out; have := HJ5.out; omega⟩, by repeat (first | exact Drawn0.refl _ | apply Drawn0.step)⟩
                   ·rw [if_neg c67] at H
                    have c67b : decide (x16_5 ≤ x10_2) = false := decide_eq_false c67
                    clear c67
                    by_cases c68 : x14_5 > a0_1
                    ·rw [if_pos c68] at H
                     cases k5 with
                     | zero => exact absurd H (by simp [sandglasslaw12_RingRate.j7])
                     | succ k6 => exact absurd H (by simp [sandglasslaw12_RingRate.j7])
                    rw [if_neg c68] at H
                    have c68b : decide (a0_1 < x14_5) = false := decide_eq_false c68
                    clear c68
                    cases t505
                    ·rw [if_neg (show ¬ (false = true) by decide), if_pos (of_decide_eq_true c31b0), if_pos (of_decide_eq_true c32b0)] at H
                     by_cases c69 : wrap64 (x15_5 + ((rd_T45 l1 x10_2).f1)) ≤ a0_1
                     ·rw [decide_eq_true c69] at H
                      cases k5 with
                      | zero => exact absurd H (by simp [sandglasslaw12_RingRate.j7])
                      | succ k6 => exact absurd H (by simp [sandglasslaw12_RingRate.j7])
                     have c69b : decide (wrap64 (x15_5 + ((rd_T45 l1 x10_2).f1)) ≤ a0_1) = false := decide_eq_false c69
                     clear c69
                     rw [c69b] at H
                     cases k5 with
                     | zero => exact absurd H (by simp [sandglasslaw12_RingRate.j7])
                     | succ k6 =>
                      simp only [sandglasslaw12_RingRate.j7] at H
                      rw [if_neg (show ¬ (false = true) by decide)] at H
                      have H' := Aside0.mk H
                      clear H
                      go_wp2
                      repeat (go_quiet (fail); try go_wp2)
                      go_roundg k6
                      case measure => have := HJ2.out; have := HK2.out; have := HJ22.out; have := HJ34.out; have := HK5.out; omega
                      case rel => exact ⟨(wrap64 (x6_2 + ((rd_T45 l1 x10_2).f0))), y511, y515, (wrap64 (x10_2 + 1)), t497, t498, t499, t502, (.slice Ao45 t499.length co45), (.slice Ao47 t502.length co47), rfl, rfl, H', ⟨by have := HJ2.out; have := HK2.out; have := HJ22.out; have := HJ34.out; have := HK5.out; omega⟩, ⟨by (with_reducible repeat (first | apply Kd.R_alloc | apply Kd.R_drewN | apply Kd.R_drew)); exact Kd.R_mono HO_8.out (fun _ hk => hk.2)⟩, ⟨by (with_reducible repeat (first | apply Kd.R_alloc | apply Kd.R_drewN | apply Kd.R_drew)); exact HO517.out⟩, ⟨by (with_reducible repeat (first | apply Kd.V_alloc | apply Kd.V_drewN | apply Kd.V_drew)); exact Kd.V_mono HO_490002.out (fun _ hk => ⟨hk.1.1, hk.2, hk.1.2.1, hk.1.2.2.1⟩)⟩, ⟨by (with_reducible repeat (first | apply Kd.V_alloc | apply Kd.V_drewN | apply Kd.V_drew)); exact Kd.V_mono HO_490003.out (fun _ hk => ⟨hk.1.1, hk.2, hk.1.2.1, hk.1.2.2.1⟩)⟩, ⟨bo BK486⟩, ⟨bo BK489⟩, ⟨bl HB⟩⟩
                    ·rw [if_pos rfl] at H
                     cases k5 with
                     | zero => exact absurd H (by simp [sandglasslaw12_RingRate.j7])
                     | succ k6 =>
                      simp only [sandglasslaw12_RingRate.j7] at H
                      rw [if_neg (show ¬ (false = true) by decide)] at H
                      have H' := Aside0.mk H
                      clear H
                      go_wp2
                      repeat (go_quiet (fail); try go_wp2)
                      go_roundg k6
                      case measure => have := HJ2.out; have := HK2.out; have := HJ22.out; have := HJ34.out; have := HK5.out; omega
                      case rel => exact ⟨(wrap64 (x6_2 + ((rd_T45 l1 x10_2).f0))), y511, y515, (wrap64 (x10_2 + 1)), t497, t498, t499, t502, (.slice Ao45 t499.length co45), (.slice Ao47 t502.length co47), rfl, rfl, H', ⟨by have := HJ2.out; have := HK2.out; have := HJ22.out; have := HJ34.out; have := HK5.out; omega⟩, ⟨by (with_reducible repeat (first | apply Kd.R_alloc | apply Kd.R_drewN | apply Kd.R_drew)); exact Kd.R_mono HO_8.out (fun _ hk => hk.2)⟩, ⟨by (with_reducible repeat (first | apply Kd.R_alloc | apply Kd.R_drewN | apply Kd.R_drew)); exact HO517.out⟩, ⟨by (with_reducible repeat (first | apply Kd.V_alloc | apply Kd.V_drewN | apply Kd.V_drew)); exact Kd.V_mono HO_490002.out (fun _ hk => ⟨hk.1.1, hk.2, hk.1.2.1, hk.1.2.2.1⟩)⟩, ⟨by (with_reducible repeat (first | apply Kd.V_alloc | apply Kd.V_drewN | apply Kd.V_drew)); exact Kd.V_mono HO_490003.out (fun _ hk => ⟨hk.1.1, hk.2, hk.1.2.1, hk.1.2.2.1⟩)⟩, ⟨bo BK486⟩, ⟨bo BK489⟩, ⟨bl HB⟩⟩
                ·rw [if_neg c65] at H
                 exact absurd H (by simp)
             ·rw [if_neg c34] at H
              exact absurd H (by simp)
            ·rw [if_neg c32] at H
             exact absurd H (by simp)
           ·rw [if_neg c31] at H
            exact absurd H (by simp)
       ·rw [if_neg c22] at H
        have c22b0 : decide (x10_2 < (l1.length : Int)) = false := decide_eq_false c22
        clear c22
        replace H := Option.bind_eq_some_iff.mp H
        obtain ⟨t524, A1030, H⟩ := H
        have A103 := Aside0.mk A1030
        clear A1030
        obtain rfl := Option.some.inj H
        go_wp2_with (first | ((with_reducible refine gate_callee (f := 9) rfl ?_); refine goesL_ (some 177) rfl rfl Try.func9 (by kernel_rfl) rfl #[] rfl (by (try simp only [List.map_toArray, List.map_cons, List.map_nil]); first | done | rfl | (simp only [List.length_drop, List.length_take]; rfl)) ?_; (with_reducible refine (sandglasslaw12_live.calls k2  t524 _ A103.out).mono ?_); rintro e w104 ⟨rfl, hb⟩; refine ⟨_, rfl, ?_⟩; replace HO_8 := Aside0.mk (Kd.R_below (by (with_reducible repeat (first | apply Kd.R_alloc | apply Kd.R_drewN | apply Kd.R_drew)); exact HO_8.out) hb); replace HO_9 := Aside0.mk (Kd.R_below (by (with_reducible repeat (first | apply Kd.R_alloc | apply Kd.R_drewN | apply Kd.R_drew)); exact HO_9.out) hb); replace HO_490002 := vb HO_490002 hb; replace HO_490003 := vb HO_490003 hb; replace BK486 := Aside0.mk (blk_below (bo BK486) hb); replace BK489 := Aside0.mk (blk_below (bo BK489) hb); replace HB := Aside0.mk (below_step (bl HB) hb); (try clear hb); (try clear hb2); (try clear hk); (try clear hi)))
        go_ret
        exact ⟨by first | (with_reducible rfl) | rfl | (simp [errW_none, errW_some] <;> rfl) | (simp [*, errW_none, errW_some] <;> rfl), bl HB⟩

end Go.Proofs.Ytalcmlgkdkbbaaa.Q
