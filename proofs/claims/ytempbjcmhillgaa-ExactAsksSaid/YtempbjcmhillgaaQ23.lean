-- Laid by wip/tools/hprint.py, a program of this repo, over the kit's print; not a text of print.sh.
import Derived.Test.YtempbjcmhillgaaQ0
import Derived.Test.YtempbjcmhillgaaQ18
import Derived.Test.YtempbjcmhillgaaQ19
import Derived.Test.YtempbjcmhillgaaQ20
import Derived.Test.YtempbjcmhillgaaQ21
import Derived.Test.YtempbjcmhillgaaQ22
namespace Go.Proofs.Ytempbjcmhillgaa.Q
open Go.RowKit Go.Proofs.Ytempbjcmhillgaa.Zip Go.Proofs.YtempbjcmhillgaaW.PrintWords Go.Proofs.YtempbjcmhillgaaW.PrintLast Go.Proofs.YtempbjcmhillgaaW.PrintMore
attribute [local go_sem] max2_int min2_int max_two min_two max_three min_three max_four min_four   -- for this text's walks alone
set_option linter.unusedVariables false
set_option linter.unusedSimpArgs false

/-! ### sandglassref13_Ask: function 11 -/
mutual
def sandglassref13_Ask.j0 : Nat → Int → Int → Bool → Int → Int → Int → Int → Int → Int → List Int → List (S50) → Option (Int × Int × List Int × (List (S50)) × Bool × Int × Int × Int)
  | 0, _, _, _, _, _, _, _, _, _, _, _ => none
  | k + 1, x2, x3, x28, x284000, x284001, x284002, x284003, x285000, x285001, x285002, x285003 => if x28 = true then (some (x285000, x285001, x285002, x285003, false, 0, 0, 0)) else (sandglassref13_Ask.l0 k (mx x2 x285000) x3 0 x284000 x284001 x284002 x284003 x285000 x285001 x285002 x285003 (mx x2 x285000) 0 ([] : List (S50)))
def sandglassref13_Ask.l0 : Nat → Int → Int → Int → Int → Int → Int → Int → Int → Int → List Int → List (S50) → Int → Int → List (S50) → Option (Int × Int × List Int × (List (S50)) × Bool × Int × Int × Int)
  | 0, _, _, _, _, _, _, _, _, _, _, _, _, _, _ => none
  | k + 1, x2, x3, x11, x284000, x284001, x284002, x284003, x285000, x285001, x285002, x285003, x291000, x291001, x291003 => if x11 < (x285003.length : Int) then (if 0 ≤ x11 then (if ((rd_T50 x285003 x11).f0) > (wrap64 (x2 - x284002)) then (if x291003.length < 8796093022208 then (sandglassref13_Ask.l0 k x2 x3 (wrap64 (x11 + 1)) x284000 x284001 x284002 x284003 x285000 x285001 x285002 x285003 x291000 x291001 (x291003 ++ [(⟨(rd_T50 x285003 x11).f0, (rd_T50 x285003 x11).f1⟩ : S50)])) else (none)) else (sandglassref13_Ask.l0 k x2 x3 (wrap64 (x11 + 1)) x284000 x284001 x284002 x284003 x285000 x285001 x285002 x285003 x291000 x291001 x291003)) else (none)) else ((sandglassref13_counts.f k x284000 x284001 x284002 x284003 x291003 x2).bind fun t296 => (if (wrap64 (t296 + x3)) ≤ x284001 then (if (wrap64 ((x291003.length : Int) - 1)) ≥ 0 then (if 0 ≤ (wrap64 ((x291003.length : Int) - 1)) then (if (wrap64 ((x291003.length : Int) - 1)) < (x291003.length : Int) then (sandglassref13_Ask.j2 k x2 x3 (wrap64 (t296 + x3)) (wrap64 ((x291003.length : Int) - 1)) (((rd_T50 x291003 (wrap64 ((x291003.length : Int) - 1))).f0) == x2) x284000 x284001 x284002 x284003 x291000 x291001 x291003 (decide ((wrap64 (t296 + x3)) ≤ x284001)) 0 0 0) else (none)) else (none)) else (sandglassref13_Ask.j2 k x2 x3 (wrap64 (t296 + x3)) (wrap64 ((x291003.length : Int) - 1)) false x284000 x284001 x284002 x284003 x291000 x291001 x291003 (decide ((wrap64 (t296 + x3)) ≤ x284001)) 0 0 0)) else (if x3 > x284001 then (sandglassref13_Ask.j3 k x2 t296 x284000 x284001 x284002 x284003 x291000 x291001 x291003 (decide ((wrap64 (t296 + x3)) ≤ x284001)) 0 2199023255552 0) else ((sandglassref13_wait.f k x284000 x284001 x284002 x284003 x291003 x2 (wrap64 (x284001 - x3))).bind fun t304 => (sandglassref13_Ask.j3 k x2 t296 x284000 x284001 x284002 x284003 x291000 x291001 x291003 (decide ((wrap64 (t296 + x3)) ≤ x284001)) 0 t304 0)))))
def sandglassref13_Ask.j3 : Nat → Int → Int → Int → Int → Int → Int → Int → Int → List (S50) → Bool → Int → Int → Int → Option (Int × Int × List Int × (List (S50)) × Bool × Int × Int × Int)
  | 0, _, _, _, _, _, _, _, _, _, _, _, _, _ => none
  | k + 1, x2, x12, x284000, x284001, x284002, x284003, x291000, x291001, x291003, x298000, x298001, x298002, x298003 => (sandglassref13_wait.f k x284000 x284001 x284002 x284003 x291003 x2 0).bind fun t305 => (some (x291000, x291001, ([] : List Int), x291003, x298000, wrap64 (x284001 - x12), x298002, t305))
def sandglassref13_Ask.j2 : Nat → Int → Int → Int → Int → Bool → Int → Int → Int → Int → Int → Int → List (S50) → Bool → Int → Int → Int → Option (Int × Int × List Int × (List (S50)) × Bool × Int × Int × Int)
  | 0, _, _, _, _, _, _, _, _, _, _, _, _, _, _, _, _ => none
  | k + 1, x2, x3, x12, x14, x97, x284000, x284001, x284002, x284003, x291000, x291001, x291003, x298000, x298001, x298002, x298003 => if x97 = true then (if 0 ≤ x14 then (if x14 < (x291003.length : Int) then (sandglassref13_Ask.j3 k x2 x12 x284000 x284001 x284002 x284003 x291000 x291001 (x291003.set (x14 : Int).toNat (⟨(rd_T50 x291003 x14).f0, wrap64 (((rd_T50 x291003 x14).f1) + x3)⟩ : S50)) x298000 x298001 x298002 x298003) else (none)) else (none)) else (if x291003.length < 8796093022208 then (sandglassref13_Ask.j3 k x2 x12 x284000 x284001 x284002 x284003 x291000 x291001 (x291003 ++ [(⟨x2, x3⟩ : S50)]) x298000 x298001 x298002 x298003) else (none))
end
def sandglassref13_Ask.f (k : Nat) (a0_0 : Int) (a0_1 : Int) (a0_2 : Int) (a0_3 : Int) (a1_0 : Int) (a1_1 : Int) (l1_2 : List Int) (l1_3 : List (S50)) (a2 : Int) (a3 : Int) : Option (Int × Int × List Int × (List (S50)) × Bool × Int × Int × Int) := (sandglassref13_May.f k a0_0 a0_1 a0_2 a0_3 a1_0 a1_1 l1_2 l1_3).bind fun t287 => (if t287 = true then ((sandglassref10_Time.f a2).bind fun t288 => (if t288 = true then ((sandglassref09_Weighs.f a3).bind fun t289 => (sandglassref13_Ask.j0 k a2 a3 (!t289) a0_0 a0_1 a0_2 a0_3 a1_0 a1_1 l1_2 l1_3)) else (sandglassref13_Ask.j0 k a2 a3 true a0_0 a0_1 a0_2 a0_3 a1_0 a1_1 l1_2 l1_3))) else (sandglassref13_Ask.j0 k a2 a3 true a0_0 a0_1 a0_2 a0_3 a1_0 a1_1 l1_2 l1_3))
theorem sandglassref13_Ask.mono_l : ∀ k, (∀ y0 y1 y2 y3 y4 y5 y6 y7 y8 y9 y10, LeO (sandglassref13_Ask.j0 k y0 y1 y2 y3 y4 y5 y6 y7 y8 y9 y10) (sandglassref13_Ask.j0 (k + 1) y0 y1 y2 y3 y4 y5 y6 y7 y8 y9 y10)) ∧ (∀ y0 y1 y2 y3 y4 y5 y6 y7 y8 y9 y10 y11 y12 y13, LeO (sandglassref13_Ask.l0 k y0 y1 y2 y3 y4 y5 y6 y7 y8 y9 y10 y11 y12 y13) (sandglassref13_Ask.l0 (k + 1) y0 y1 y2 y3 y4 y5 y6 y7 y8 y9 y10 y11 y12 y13)) ∧ (∀ y0 y1 y2 y3 y4 y5 y6 y7 y8 y9 y10 y11 y12, LeO (sandglassref13_Ask.j3 k y0 y1 y2 y3 y4 y5 y6 y7 y8 y9 y10 y11 y12) (sandglassref13_Ask.j3 (k + 1) y0 y1 y2 y3 y4 y5 y6 y7 y8 y9 y10 y11 y12)) ∧ (∀ y0 y1 y2 y3 y4 y5 y6 y7 y8 y9 y10 y11 y12 y13 y14 y15, LeO (sandglassref13_Ask.j2 k y0 y1 y2 y3 y4 y5 y6 y7 y8 y9 y10 y11 y12 y13 y14 y15) (sandglassref13_Ask.j2 (k + 1) y0 y1 y2 y3 y4 y5 y6 y7 y8 y9 y10 y11 y12 y13 y14 y15))
  | 0 => ⟨fun _ _ _ _ _ _ _ _ _ _ _ r h => by simp [sandglassref13_Ask.j0] at h, fun _ _ _ _ _ _ _ _ _ _ _ _ _ _ r h => by simp [sandglassref13_Ask.l0] at h, fun _ _ _ _ _ _ _ _ _ _ _ _ _ r h => by simp [sandglassref13_Ask.j3] at h, fun _ _ _ _ _ _ _ _ _ _ _ _ _ _ _ _ r h => by simp [sandglassref13_Ask.j2] at h⟩
  | k + 1 => by
    obtain ⟨ih0, ih1, ih2, ih3⟩ := sandglassref13_Ask.mono_l k
    refine ⟨?_, ?_, ?_, ?_⟩
    · intro y0 y1 y2 y3 y4 y5 y6 y7 y8 y9 y10
      unfold sandglassref13_Ask.j0
      repeat' first
      | (with_reducible exact ih0 _ _ _ _ _ _ _ _ _ _ _)
      | (with_reducible exact ih1 _ _ _ _ _ _ _ _ _ _ _ _ _ _)
      | (with_reducible exact ih2 _ _ _ _ _ _ _ _ _ _ _ _ _)
      | (with_reducible exact ih3 _ _ _ _ _ _ _ _ _ _ _ _ _ _ _ _)
      | (with_reducible exact sandglassref13_May.mono _ _ _ _ _ _ _ _ _)
      | (with_reducible exact sandglassref13_counts.mono _ _ _ _ _ _ _)
      | (with_reducible exact sandglassref13_wait.mono _ _ _ _ _ _ _ _)
      | (with_reducible exact LeO.refl _)
      | (with_reducible exact LeO.none _)
      | (with_reducible refine LeO.ite ?_ ?_)
      | (with_reducible refine LeO.bind ?_ (fun _ => ?_))
      | exact ih0 _ _ _ _ _ _ _ _ _ _ _
      | exact ih1 _ _ _ _ _ _ _ _ _ _ _ _ _ _
      | exact ih2 _ _ _ _ _ _ _ _ _ _ _ _ _
      | exact ih3 _ _ _ _ _ _ _ _ _ _ _ _ _ _ _ _
      | exact sandglassref13_May.mono _ _ _ _ _ _ _ _ _
      | exact sandglassref13_counts.mono _ _ _ _ _ _ _
      | exact sandglassref13_wait.mono _ _ _ _ _ _ _ _
      | exact LeO.none _
      | refine LeO.ite ?_ ?_
      | refine LeO.bind ?_ (fun _ => ?_)
    · intro y0 y1 y2 y3 y4 y5 y6 y7 y8 y9 y10 y11 y12 y13
      unfold sandglassref13_Ask.l0
      repeat' first
      | (with_reducible exact ih0 _ _ _ _ _ _ _ _ _ _ _)
      | (with_reducible exact ih1 _ _ _ _ _ _ _ _ _ _ _ _ _ _)
      | (with_reducible exact ih2 _ _ _ _ _ _ _ _ _ _ _ _ _)
      | (with_reducible exact ih3 _ _ _ _ _ _ _ _ _ _ _ _ _ _ _ _)
      | (with_reducible exact sandglassref13_May.mono _ _ _ _ _ _ _ _ _)
      | (with_reducible exact sandglassref13_counts.mono _ _ _ _ _ _ _)
      | (with_reducible exact sandglassref13_wait.mono _ _ _ _ _ _ _ _)
      | (with_reducible exact LeO.refl _)
      | (with_reducible exact LeO.none _)
      | (with_reducible refine LeO.ite ?_ ?_)
      | (with_reducible refine LeO.bind ?_ (fun _ => ?_))
      | exact ih0 _ _ _ _ _ _ _ _ _ _ _
      | exact ih1 _ _ _ _ _ _ _ _ _ _ _ _ _ _
      | exact ih2 _ _ _ _ _ _ _ _ _ _ _ _ _
      | exact ih3 _ _ _ _ _ _ _ _ _ _ _ _ _ _ _ _
      | exact sandglassref13_May.mono _ _ _ _ _ _ _ _ _
      | exact sandglassref13_counts.mono _ _ _ _ _ _ _
      | exact sandglassref13_wait.mono _ _ _ _ _ _ _ _
      | exact LeO.none _
      | refine LeO.ite ?_ ?_
      | refine LeO.bind ?_ (fun _ => ?_)
    · intro y0 y1 y2 y3 y4 y5 y6 y7 y8 y9 y10 y11 y12
      unfold sandglassref13_Ask.j3
      repeat' first
      | (with_reducible exact ih0 _ _ _ _ _ _ _ _ _ _ _)
      | (with_reducible exact ih1 _ _ _ _ _ _ _ _ _ _ _ _ _ _)
      | (with_reducible exact ih2 _ _ _ _ _ _ _ _ _ _ _ _ _)
      | (with_reducible exact ih3 _ _ _ _ _ _ _ _ _ _ _ _ _ _ _ _)
      | (with_reducible exact sandglassref13_May.mono _ _ _ _ _ _ _ _ _)
      | (with_reducible exact sandglassref13_counts.mono _ _ _ _ _ _ _)
      | (with_reducible exact sandglassref13_wait.mono _ _ _ _ _ _ _ _)
      | (with_reducible exact LeO.refl _)
      | (with_reducible exact LeO.none _)
      | (with_reducible refine LeO.ite ?_ ?_)
      | (with_reducible refine LeO.bind ?_ (fun _ => ?_))
      | exact ih0 _ _ _ _ _ _ _ _ _ _ _
      | exact ih1 _ _ _ _ _ _ _ _ _ _ _ _ _ _
      | exact ih2 _ _ _ _ _ _ _ _ _ _ _ _ _
      | exact ih3 _ _ _ _ _ _ _ _ _ _ _ _ _ _ _ _
      | exact sandglassref13_May.mono _ _ _ _ _ _ _ _ _
      | exact sandglassref13_counts.mono _ _ _ _ _ _ _
      | exact sandglassref13_wait.mono _ _ _ _ _ _ _ _
      | exact LeO.none _
      | refine LeO.ite ?_ ?_
      | refine LeO.bind ?_ (fun _ => ?_)
    · intro y0 y1 y2 y3 y4 y5 y6 y7 y8 y9 y10 y11 y12 y13 y14 y15
      unfold sandglassref13_Ask.j2
      repeat' first
      | (with_reducible exact ih0 _ _ _ _ _ _ _ _ _ _ _)
      | (with_reducible exact ih1 _ _ _ _ _ _ _ _ _ _ _ _ _ _)
      | (with_reducible exact ih2 _ _ _ _ _ _ _ _ _ _ _ _ _)
      | (with_reducible exact ih3 _ _ _ _ _ _ _ _ _ _ _ _ _ _ _ _)
      | (with_reducible exact sandglassref13_May.mono _ _ _ _ _ _ _ _ _)
      | (with_reducible exact sandglassref13_counts.mono _ _ _ _ _ _ _)
      | (with_reducible exact sandglassref13_wait.mono _ _ _ _ _ _ _ _)
      | (with_reducible exact LeO.refl _)
      | (with_reducible exact LeO.none _)
      | (with_reducible refine LeO.ite ?_ ?_)
      | (with_reducible refine LeO.bind ?_ (fun _ => ?_))
      | exact ih0 _ _ _ _ _ _ _ _ _ _ _
      | exact ih1 _ _ _ _ _ _ _ _ _ _ _ _ _ _
      | exact ih2 _ _ _ _ _ _ _ _ _ _ _ _ _
      | exact ih3 _ _ _ _ _ _ _ _ _ _ _ _ _ _ _ _
      | exact sandglassref13_May.mono _ _ _ _ _ _ _ _ _
      | exact sandglassref13_counts.mono _ _ _ _ _ _ _
      | exact sandglassref13_wait.mono _ _ _ _ _ _ _ _
      | exact LeO.none _
      | refine LeO.ite ?_ ?_
      | refine LeO.bind ?_ (fun _ => ?_)
theorem sandglassref13_Ask.mono : ∀ a0 a1 a2 a3 a4 a5 a6 a7 a8 a9 k, LeO (sandglassref13_Ask.f k a0 a1 a2 a3 a4 a5 a6 a7 a8 a9) (sandglassref13_Ask.f (k + 1) a0 a1 a2 a3 a4 a5 a6 a7 a8 a9) := by
  intro a0 a1 a2 a3 a4 a5 a6 a7 a8 a9 k
  obtain ⟨ih0, ih1, ih2, ih3⟩ := sandglassref13_Ask.mono_l k
  unfold sandglassref13_Ask.f
  repeat' first
      | (with_reducible exact ih0 _ _ _ _ _ _ _ _ _ _ _)
      | (with_reducible exact ih1 _ _ _ _ _ _ _ _ _ _ _ _ _ _)
      | (with_reducible exact ih2 _ _ _ _ _ _ _ _ _ _ _ _ _)
      | (with_reducible exact ih3 _ _ _ _ _ _ _ _ _ _ _ _ _ _ _ _)
      | (with_reducible exact sandglassref13_May.mono _ _ _ _ _ _ _ _ _)
      | (with_reducible exact sandglassref13_counts.mono _ _ _ _ _ _ _)
      | (with_reducible exact sandglassref13_wait.mono _ _ _ _ _ _ _ _)
      | (with_reducible exact LeO.refl _)
      | (with_reducible exact LeO.none _)
      | (with_reducible refine LeO.ite ?_ ?_)
      | (with_reducible refine LeO.bind ?_ (fun _ => ?_))
      | exact ih0 _ _ _ _ _ _ _ _ _ _ _
      | exact ih1 _ _ _ _ _ _ _ _ _ _ _ _ _ _
      | exact ih2 _ _ _ _ _ _ _ _ _ _ _ _ _
      | exact ih3 _ _ _ _ _ _ _ _ _ _ _ _ _ _ _ _
      | exact sandglassref13_May.mono _ _ _ _ _ _ _ _ _
      | exact sandglassref13_counts.mono _ _ _ _ _ _ _
      | exact sandglassref13_wait.mono _ _ _ _ _ _ _ _
      | exact LeO.none _
      | refine LeO.ite ?_ ?_
      | refine LeO.bind ?_ (fun _ => ?_)
def sandglassref13_Ask.T8 : Bool × List (List Nat × List Nat) := (true, [([], []), ([0], [0]), ([], []), ([1, 2], [1, 2]), ([3], [3]), ([4], [4]), ([], []), ([], []), ([7], [7]), ([6, 8], [6, 8]), ([5, 9], [5, 9])])
def sandglassref13_Ask.B8 : List Nat := [0, 1, 0, 7, 15, 31, 0, 0, 128, 448, 1023]
theorem sandglassref13_Ask.tab8 : rtab .any (opsOf Try.f11 8) = sandglassref13_Ask.T8 := by kernel_rfl
theorem sandglassref13_Ask.bits8 : waitsOk sandglassref13_Ask.T8.2 sandglassref13_Ask.B8 = true := by kernel_rfl
def sandglassref13_Ask.T9 : Bool × List (List Nat × List Nat) := (true, [([], []), ([0], [0]), ([], []), ([2], [2]), ([], []), ([3, 4], [3, 4]), ([5], [5]), ([6], [6]), ([1, 7], [1, 7]), ([0, 1, 2, 3, 4, 5, 6, 7, 8], []), ([9, 8, 8, 0, 1, 2, 3, 4, 5, 6, 7, 8], [8, 9])])
def sandglassref13_Ask.B9 : List Nat := [0, 1, 0, 4, 0, 28, 60, 124, 255, 511, 1023]
theorem sandglassref13_Ask.tab9 : rtab .any (opsOf Try.f11 9) = sandglassref13_Ask.T9 := by kernel_rfl
theorem sandglassref13_Ask.bits9 : waitsOk sandglassref13_Ask.T9.2 sandglassref13_Ask.B9 = true := by kernel_rfl
def sandglassref13_Ask.T16 : Bool × List (List Nat × List Nat) := (true, [([], []), ([0], [0]), ([], []), ([], []), ([3], [3]), ([], []), ([4, 5], [4, 5]), ([6], [6]), ([7], [7]), ([], []), ([8, 9], [8, 9]), ([1, 2, 0, 1, 2, 3, 4, 5, 6, 7, 8, 9, 10], [1, 2]), ([11, 0, 1, 2, 3, 4, 5, 6, 7, 8, 9, 10], [11]), ([12, 10, 0, 1, 2, 3, 4, 5, 6, 7, 8, 9, 10], [10, 12])])
def sandglassref13_Ask.B16 : List Nat := [0, 1, 0, 0, 8, 0, 56, 120, 248, 0, 1016, 2047, 4095, 8191]
theorem sandglassref13_Ask.tab16 : rtab .any (opsOf Try.f11 16) = sandglassref13_Ask.T16 := by kernel_rfl
theorem sandglassref13_Ask.bits16 : waitsOk sandglassref13_Ask.T16.2 sandglassref13_Ask.B16 = true := by kernel_rfl
set_option maxHeartbeats 8000000 in
set_option maxRecDepth 100000 in
theorem sandglassref13_Ask.calls (k : Nat) (a0_0 : Int) (a0_1 : Int) (a0_2 : Int) (a0_3 : Int) (a1_0 : Int) (a1_1 : Int) (P1_2_ : Nat → Prop) (A1_2 : Option Addr) (c1_2 : Nat) (l1_2 : List Int) (P1_3_ : Nat → Prop) (A1_3 : Option Addr) (c1_3 : Nat) (l1_3 : List (S50)) (a2 : Int) (a3 : Int) (r1 : Int) (r2 : Int) (r3 : List Int) (r4 : List (S50)) (r5 : Bool) (r6 : Int) (r7 : Int) (r8 : Int) (w : World) (hs1_2 : Kd.V (Kd.int .i64) 3 w w.heap.size (fun k_ => P1_2_ k_) (.slice A1_2 l1_2.length c1_2) l1_2) (hs1_3 : Kd.V k50 50 w w.heap.size (fun k_ => P1_3_ k_) (.slice A1_3 l1_3.length c1_3) l1_3) (h : sandglassref13_Ask.f k a0_0 a0_1 a0_2 a0_3 a1_0 a1_1 l1_2 l1_3 a2 a3 = some (r1, r2, r3, r4, r5, r6, r7, r8)) :
  Calls Try.prog 11 #[.agg #[.int .i64 a0_0, .int .i64 a0_1, .int .i64 a0_2, .int .i64 a0_3], .agg #[.int .i64 a1_0, .int .i64 a1_1, .slice A1_2 l1_2.length c1_2, .slice A1_3 l1_3.length c1_3], .int .i64 a2, .int .i64 a3] w fun e w' => ∃ v2_ v3_ : Value, e = .returned (.tuple #[.agg #[.int .i64 r1, .int .i64 r2, v2_, v3_], .agg #[.bool r5, .int .i64 r6, .int .i64 r7, .int .i64 r8]]) ∧ Kd.V (Kd.int .i64) 3 w' w.heap.size (fun k_ => ((P1_2_ k_ ∨ P1_3_ k_) ∨ w.heap.size ≤ k_)) v2_ r3 ∧ Kd.V k50 50 w' w.heap.size (fun k_ => ((P1_2_ k_ ∨ P1_3_ k_) ∨ w.heap.size ≤ k_)) v3_ r4 ∧ Below w.heap.size w w' := by
 have hu23 := Try.underlying23
 have hu27 := Try.underlying27
 have hu32 := Try.underlying32
 have hu50 := Try.underlying50
 have HO1_2 := Aside0.mk (show Kd.V (Kd.int .i64) 3 w w.heap.size (fun k_ => ((P1_2_ k_ ∨ P1_3_ k_) ∨ w.heap.size ≤ k_)) (.slice A1_2 l1_2.length c1_2) l1_2 from Kd.V_mono hs1_2 (fun k_ hk => .inl (.inl hk)))
 have HO1_3 := Aside0.mk (show Kd.V k50 50 w w.heap.size (fun k_ => ((P1_2_ k_ ∨ P1_3_ k_) ∨ w.heap.size ≤ k_)) (.slice A1_3 l1_3.length c1_3) l1_3 from Kd.V_mono hs1_3 (fun k_ hk => .inl (.inr hk)))
 have HB := Aside0.mk (Below.refl w.heap.size w)
 have H : ((sandglassref13_May.f k a0_0 a0_1 a0_2 a0_3 a1_0 a1_1 l1_2 l1_3).bind fun t287 => (if t287 = true then ((sandglassref10_Time.f a2).bind fun t288 => (if t288 = true then ((sandglassref09_Weighs.f a3).bind fun t289 => (sandglassref13_Ask.j0 k a2 a3 (!t289) a0_0 a0_1 a0_2 a0_3 a1_0 a1_1 l1_2 l1_3)) else (sandglassref13_Ask.j0 k a2 a3 true a0_0 a0_1 a0_2 a0_3 a1_0 a1_1 l1_2 l1_3))) else (sandglassref13_Ask.j0 k a2 a3 true a0_0 a0_1 a0_2 a0_3 a1_0 a1_1 l1_2 l1_3))) = some (r1, r2, r3, r4, r5, r6, r7, r8) := h
 clear h
 have HC5 := Aside0.mk H
 clear H
 go_enter Try.func11, Try.ntmps11
 go_upto_region 1 with (first | ((with_reducible refine gate_dst (N := 4) rfl ?_); refine box_event ?hg (N := 4) ?hd (cs := #[.int .i64 a0_0, .int .i64 a0_1, .int .i64 a0_2, .int .i64 a0_3]) (t := 23) ?hr ?_; (case hd => rfl); (case hg => rfl); (case hr => first | (go_simp; done) | (go_simp; rfl)); intro gb283 hg w6 hbox hb; have BK283 := Aside0.mk (hbox); have GW283 := Aside0.mk ((by rw [hg]; exact (below_size (bl HB)) : w.heap.size ≤ gb283)); have GE283 := Aside0.mk ((by rw [hg]; exact (below_size (bl HB)) : w.heap.size ≤ gb283)); replace HO1_2 := ve HO1_2 hg hb; replace HO1_3 := ve HO1_3 hg hb; replace HB := Aside0.mk (below_step (bl HB) hb); clear hb hbox hg) | ((with_reducible refine gate_dst (N := 5) rfl ?_); refine box_event ?hg (N := 5) ?hd (cs := #[.int .i64 a1_0, .int .i64 a1_1, .slice A1_2 l1_2.length c1_2, .slice A1_3 l1_3.length c1_3]) (t := 27) ?hr ?_; (case hd => rfl); (case hg => rfl); (case hr => first | (go_simp; done) | (go_simp; rfl)); intro gb284 hg w7 hbox hb; have BK284 := Aside0.mk (hbox); have GW284 := Aside0.mk ((by rw [hg]; exact (below_size (bl HB)) : w.heap.size ≤ gb284)); have GE284 := Aside0.mk ((by rw [hg]; exact (below_size (bl HB)) : w.heap.size ≤ gb284)); have NB283_284 := nb BK283 hg; have NB284_283 := bn BK283 hg; replace HO1_2 := ve HO1_2 hg hb; replace HO1_3 := ve HO1_3 hg hb; replace BK283 := Aside0.mk (blk_below (bo BK283) hb); replace HB := Aside0.mk (below_step (bl HB) hb); clear hb hbox hg) | ((with_reducible refine gate_dst (N := 8) rfl ?_); refine box_event ?hg (N := 8) ?hd (cs := #[.int .i64 0, .int .i64 0, .slice none 0 0, .slice none 0 0]) (t := 27) ?hr ?_; (case hd => rfl); (case hg => rfl); (case hr => first | (go_simp; done) | (go_simp; rfl)); intro gb285 hg w8 hbox hb; have BK285 := Aside0.mk (hbox); have GW285 := Aside0.mk ((by rw [hg]; exact (below_size (bl HB)) : w.heap.size ≤ gb285)); have GE285 := Aside0.mk ((by rw [hg]; exact (below_size (bl HB)) : w.heap.size ≤ gb285)); have NB283_285 := nb BK283 hg; have NB285_283 := bn BK283 hg; have NB284_285 := nb BK284 hg; have NB285_284 := bn BK284 hg; replace HO1_2 := ve HO1_2 hg hb; replace HO1_3 := ve HO1_3 hg hb; replace BK283 := Aside0.mk (blk_below (bo BK283) hb); replace BK284 := Aside0.mk (blk_below (bo BK284) hb); replace HB := Aside0.mk (below_step (bl HB) hb); clear hb hbox hg) | ((with_reducible refine gate_dst (N := 9) rfl ?_); refine box_event ?hg (N := 9) ?hd (cs := #[.bool false, .int .i64 0, .int .i64 0, .int .i64 0]) (t := 32) ?hr ?_; (case hd => rfl); (case hg => rfl); (case hr => first | (go_simp; done) | (go_simp; rfl)); intro gb286 hg w9 hbox hb; have BK286 := Aside0.mk (hbox); have GW286 := Aside0.mk ((by rw [hg]; exact (below_size (bl HB)) : w.heap.size ≤ gb286)); have GE286 := Aside0.mk ((by rw [hg]; exact (below_size (bl HB)) : w.heap.size ≤ gb286)); have NB283_286 := nb BK283 hg; have NB286_283 := bn BK283 hg; have NB284_286 := nb BK284 hg; have NB286_284 := bn BK284 hg; have NB285_286 := nb BK285 hg; have NB286_285 := bn BK285 hg; replace HO1_2 := ve HO1_2 hg hb; replace HO1_3 := ve HO1_3 hg hb; replace BK283 := Aside0.mk (blk_below (bo BK283) hb); replace BK284 := Aside0.mk (blk_below (bo BK284) hb); replace BK285 := Aside0.mk (blk_below (bo BK285) hb); replace HB := Aside0.mk (below_step (bl HB) hb); clear hb hbox hg))
 (try simp only [Act.put, List.setIfInBounds_toArray, List.set_cons_zero, List.set_cons_succ])
 go_cut [28] (fun v28 wc => ∃ (kq : Nat) (x28_4 : Bool), v28 = .bool x28_4 ∧ Aside0 (sandglassref13_Ask.j0 kq a2 a3 x28_4 a0_0 a0_1 a0_2 a0_3 a1_0 a1_1 l1_2 l1_3 = some (r1, r2, r3, r4, r5, r6, r7, r8)) ∧ Aside0 (kq ≤ k) ∧ Aside0 (Kd.V (Kd.int .i64) 3 wc w.heap.size (fun k_ => ((P1_2_ k_ ∨ P1_3_ k_) ∨ w.heap.size ≤ k_) ∧ k_ ≠ gb283 ∧ k_ ≠ gb284 ∧ k_ ≠ gb285 ∧ k_ ≠ gb286) (.slice A1_2 l1_2.length c1_2) l1_2) ∧ Aside0 (Kd.V k50 50 wc w.heap.size (fun k_ => ((P1_2_ k_ ∨ P1_3_ k_) ∨ w.heap.size ≤ k_) ∧ k_ ≠ gb283 ∧ k_ ≠ gb284 ∧ k_ ≠ gb285 ∧ k_ ≠ gb286) (.slice A1_3 l1_3.length c1_3) l1_3) ∧ Aside0 (wc.heap[gb283]? = some (.cells #[.int .i64 a0_0, .int .i64 a0_1, .int .i64 a0_2, .int .i64 a0_3] 23 (0, 0))) ∧ Aside0 (wc.heap[gb284]? = some (.cells #[.int .i64 a1_0, .int .i64 a1_1, (.slice A1_2 l1_2.length c1_2), (.slice A1_3 l1_3.length c1_3)] 27 (0, 0))) ∧ Aside0 (wc.heap[gb285]? = some (.cells #[.int .i64 0, .int .i64 0, (.slice none 0 0), (.slice none 0 0)] 27 (0, 0))) ∧ Aside0 (wc.heap[gb286]? = some (.cells #[.bool false, .int .i64 0, .int .i64 0, .int .i64 0] 32 (0, 0))) ∧ Aside0 (Below w.heap.size w wc))
 case first =>
  have H := HC5.out
  clear HC5
  replace H := Option.bind_eq_some_iff.mp H
  obtain ⟨t287, A100, H⟩ := H
  have A10 := Aside0.mk A100
  clear A100
  by_cases c11 : t287 = true
  ·subst c11
   rw [if_pos rfl] at H
   replace H := Option.bind_eq_some_iff.mp H
   obtain ⟨t288, A120, H⟩ := H
   have A12 := Aside0.mk A120
   clear A120
   by_cases c13 : t288 = true
   ·subst c13
    rw [if_pos rfl] at H
    replace H := Option.bind_eq_some_iff.mp H
    obtain ⟨t289, A140, H⟩ := H
    have A14 := Aside0.mk A140
    clear A140
    have H' := Aside0.mk H
    clear H
    have hnb15 := NB283_284.out
    have hnc15 := NB284_283.out
    have hnb16 := NB283_285.out
    have hnc16 := NB285_283.out
    have hnb17 := NB283_286.out
    have hnc17 := NB286_283.out
    obtain ⟨hcz18_0, hcz18_1, hcz18_2, hcz18_3⟩ := ce4 BK283
    obtain ⟨hfz18_0, hfz18_1, hfz18_2, hfz18_3⟩ := fr4 BK283
    have hnb19 := NB284_285.out
    have hnc19 := NB285_284.out
    have hnb20 := NB284_286.out
    have hnc20 := NB286_284.out
    obtain ⟨hcz21_0, hcz21_1, hcz21_2, hcz21_3⟩ := ce4 BK284
    obtain ⟨hfz21_0, hfz21_1, hfz21_2, hfz21_3⟩ := fr4 BK284
    go_wp2_with (first | ((with_reducible refine gate_callee (f := 14) rfl ?_); refine goesL_ (some 17) rfl rfl Try.func14 (by kernel_rfl) rfl #[.agg #[.int .i64 a0_0, .int .i64 a0_1, .int .i64 a0_2, .int .i64 a0_3], .agg #[.int .i64 a1_0, .int .i64 a1_1, .slice A1_2 l1_2.length c1_2, .slice A1_3 l1_3.length c1_3]] rfl (by (try simp only [List.map_toArray, List.map_cons, List.map_nil]); first | done | rfl | (simp only [List.length_drop, List.length_take]; rfl)) ?_; (with_reducible refine (sandglassref13_May.calls k a0_0 a0_1 a0_2 a0_3 a1_0 a1_1 _ _ l1_2 _ _ l1_3 true _ ?side1 ?side2 ?side3 ?side4 A10.out).mono ?_); (case side1 => repeat (first | exact (Kd.V_reads' HO1_2.out).2.2 | (with_reducible refine Kd.C_alloc ?_ _) | (with_reducible refine Kd.C_drewN ?_ _) | (with_reducible refine Kd.C_drew ?_))); (case side2 => exact (Kd.V_reads' HO1_2.out).2.1); (case side3 => repeat (first | exact (Kd.V_reads' HO1_3.out).2.2 | (with_reducible refine Kd.C_alloc ?_ _) | (with_reducible refine Kd.C_drewN ?_ _) | (with_reducible refine Kd.C_drew ?_))); (case side4 => exact (Kd.V_reads' HO1_3.out).2.1); rintro e w22 ⟨rfl, hb⟩; refine ⟨_, rfl, ?_⟩; replace HO1_2 := vb HO1_2 hb; replace HO1_3 := vb HO1_3 hb; replace BK283 := Aside0.mk (blk_below (bo BK283) hb); replace BK284 := Aside0.mk (blk_below (bo BK284) hb); replace BK285 := Aside0.mk (blk_below (bo BK285) hb); replace BK286 := Aside0.mk (blk_below (bo BK286) hb); replace HB := Aside0.mk (below_step (bl HB) hb); (try clear hb); (try clear hb2); (try clear hk); (try clear hi)) | (go_at_call 27; (with_reducible refine (sandglassref10_Time.calls a2 true _ A12.out).mono ?_); rintro e w' ⟨rfl, ⟨nd, rfl⟩⟩) | (go_at_call 19; (with_reducible refine (sandglassref09_Weighs.calls a3 t289 _ A14.out).mono ?_); rintro e w' ⟨rfl, ⟨nd, rfl⟩⟩))
    go_meet
    case rel => exact ⟨_, (!t289), (by first | (with_reducible rfl) | rfl | (simp; done) | (simp [*]; done)), H', ⟨by first | omega | exact Nat.le_refl _⟩, ⟨by (with_reducible repeat (first | apply Kd.V_alloc | apply Kd.V_drewN | apply Kd.V_drew)); exact Kd.V_mono HO1_2.out (fun _ hk => ⟨hk.1.1.1.1, ⟨hk.1.1.1.2, ⟨hk.1.1.2, ⟨hk.1.2, hk.2⟩⟩⟩⟩)⟩, ⟨by (with_reducible repeat (first | apply Kd.V_alloc | apply Kd.V_drewN | apply Kd.V_drew)); exact Kd.V_mono HO1_3.out (fun _ hk => ⟨hk.1.1.1.1, ⟨hk.1.1.1.2, ⟨hk.1.1.2, ⟨hk.1.2, hk.2⟩⟩⟩⟩)⟩, ⟨bo BK283⟩, ⟨bo BK284⟩, ⟨bo BK285⟩, ⟨bo BK286⟩, ⟨bl HB⟩⟩
   ·replace c13 := Bool.eq_false_iff.mpr c13
    subst c13
    rw [if_neg (show ¬ (false = true) by decide)] at H
    have H' := Aside0.mk H
    clear H
    have hnb23 := NB283_284.out
    have hnc23 := NB284_283.out
    have hnb24 := NB283_285.out
    have hnc24 := NB285_283.out
    have hnb25 := NB283_286.out
    have hnc25 := NB286_283.out
    obtain ⟨hcz26_0, hcz26_1, hcz26_2, hcz26_3⟩ := ce4 BK283
    obtain ⟨hfz26_0, hfz26_1, hfz26_2, hfz26_3⟩ := fr4 BK283
    have hnb27 := NB284_285.out
    have hnc27 := NB285_284.out
    have hnb28 := NB284_286.out
    have hnc28 := NB286_284.out
    obtain ⟨hcz29_0, hcz29_1, hcz29_2, hcz29_3⟩ := ce4 BK284
    obtain ⟨hfz29_0, hfz29_1, hfz29_2, hfz29_3⟩ := fr4 BK284
    go_wp2_with (first | ((with_reducible refine gate_callee (f := 14) rfl ?_); refine goesL_ (some 17) rfl rfl Try.func14 (by kernel_rfl) rfl #[.agg #[.int .i64 a0_0, .int .i64 a0_1, .int .i64 a0_2, .int .i64 a0_3], .agg #[.int .i64 a1_0, .int .i64 a1_1, .slice A1_2 l1_2.length c1_2, .slice A1_3 l1_3.length c1_3]] rfl (by (try simp only [List.map_toArray, List.map_cons, List.map_nil]); first | done | rfl | (simp only [List.length_drop, List.length_take]; rfl)) ?_; (with_reducible refine (sandglassref13_May.calls k a0_0 a0_1 a0_2 a0_3 a1_0 a1_1 _ _ l1_2 _ _ l1_3 true _ ?side1 ?side2 ?side3 ?side4 A10.out).mono ?_); (case side1 => repeat (first | exact (Kd.V_reads' HO1_2.out).2.2 | (with_reducible refine Kd.C_alloc ?_ _) | (with_reducible refine Kd.C_drewN ?_ _) | (with_reducible refine Kd.C_drew ?_))); (case side2 => exact (Kd.V_reads' HO1_2.out).2.1); (case side3 => repeat (first | exact (Kd.V_reads' HO1_3.out).2.2 | (with_reducible refine Kd.C_alloc ?_ _) | (with_reducible refine Kd.C_drewN ?_ _) | (with_reducible refine Kd.C_drew ?_))); (case side4 => exact (Kd.V_reads' HO1_3.out).2.1); rintro e w30 ⟨rfl, hb⟩; refine ⟨_, rfl, ?_⟩; replace HO1_2 := vb HO1_2 hb; replace HO1_3 := vb HO1_3 hb; replace BK283 := Aside0.mk (blk_below (bo BK283) hb); replace BK284 := Aside0.mk (blk_below (bo BK284) hb); replace BK285 := Aside0.mk (blk_below (bo BK285) hb); replace BK286 := Aside0.mk (blk_below (bo BK286) hb); replace HB := Aside0.mk (below_step (bl HB) hb); (try clear hb); (try clear hb2); (try clear hk); (try clear hi)) | (go_at_call 27; (with_reducible refine (sandglassref10_Time.calls a2 false _ A12.out).mono ?_); rintro e w' ⟨rfl, ⟨nd, rfl⟩⟩))
    go_meet
    case rel => exact ⟨_, (true), (by first | (with_reducible rfl) | rfl | (simp; done) | (simp [*]; done)), H', ⟨by first | omega | exact Nat.le_refl _⟩, ⟨by (with_reducible repeat (first | apply Kd.V_alloc | apply Kd.V_drewN | apply Kd.V_drew)); exact Kd.V_mono HO1_2.out (fun _ hk => ⟨hk.1.1.1.1, ⟨hk.1.1.1.2, ⟨hk.1.1.2, ⟨hk.1.2, hk.2⟩⟩⟩⟩)⟩, ⟨by (with_reducible repeat (first | apply Kd.V_alloc | apply Kd.V_drewN | apply Kd.V_drew)); exact Kd.V_mono HO1_3.out (fun _ hk => ⟨hk.1.1.1.1, ⟨hk.1.1.1.2, ⟨hk.1.1.2, ⟨hk.1.2, hk.2⟩⟩⟩⟩)⟩, ⟨bo BK283⟩, ⟨bo BK284⟩, ⟨bo BK285⟩, ⟨bo BK286⟩, ⟨bl HB⟩⟩
  ·replace c11 := Bool.eq_false_iff.mpr c11
   subst c11
   rw [if_neg (show ¬ (false = true) by decide)] at H
   have H' := Aside0.mk H
   clear H
   have hnb31 := NB283_284.out
   have hnc31 := NB284_283.out
   have hnb32 := NB283_285.out
   have hnc32 := NB285_283.out
   have hnb33 := NB283_286.out
   have hnc33 := NB286_283.out
   obtain ⟨hcz34_0, hcz34_1, hcz34_2, hcz34_3⟩ := ce4 BK283
   obtain ⟨hfz34_0, hfz34_1, hfz34_2, hfz34_3⟩ := fr4 BK283
   have hnb35 := NB284_285.out
   have hnc35 := NB285_284.out
   have hnb36 := NB284_286.out
   have hnc36 := NB286_284.out
   obtain ⟨hcz37_0, hcz37_1, hcz37_2, hcz37_3⟩ := ce4 BK284
   obtain ⟨hfz37_0, hfz37_1, hfz37_2, hfz37_3⟩ := fr4 BK284
   go_wp2_with (first | ((with_reducible refine gate_callee (f := 14) rfl ?_); refine goesL_ (some 17) rfl rfl Try.func14 (by kernel_rfl) rfl #[.agg #[.int .i64 a0_0, .int .i64 a0_1, .int .i64 a0_2, .int .i64 a0_3], .agg #[.int .i64 a1_0, .int .i64 a1_1, .slice A1_2 l1_2.length c1_2, .slice A1_3 l1_3.length c1_3]] rfl (by (try simp only [List.map_toArray, List.map_cons, List.map_nil]); first | done | rfl | (simp only [List.length_drop, List.length_take]; rfl)) ?_; (with_reducible refine (sandglassref13_May.calls k a0_0 a0_1 a0_2 a0_3 a1_0 a1_1 _ _ l1_2 _ _ l1_3 false _ ?side1 ?side2 ?side3 ?side4 A10.out).mono ?_); (case side1 => repeat (first | exact (Kd.V_reads' HO1_2.out).2.2 | (with_reducible refine Kd.C_alloc ?_ _) | (with_reducible refine Kd.C_drewN ?_ _) | (with_reducible refine Kd.C_drew ?_))); (case side2 => exact (Kd.V_reads' HO1_2.out).2.1); (case side3 => repeat (first | exact (Kd.V_reads' HO1_3.out).2.2 | (with_reducible refine Kd.C_alloc ?_ _) | (with_reducible refine Kd.C_drewN ?_ _) | (with_reducible refine Kd.C_drew ?_))); (case side4 => exact (Kd.V_reads' HO1_3.out).2.1); rintro e w38 ⟨rfl, hb⟩; refine ⟨_, rfl, ?_⟩; replace HO1_2 := vb HO1_2 hb; replace HO1_3 := vb HO1_3 hb; replace BK283 := Aside0.mk (blk_below (bo BK283) hb); replace BK284 := Aside0.mk (blk_below (bo BK284) hb); replace BK285 := Aside0.mk (blk_below (bo BK285) hb); replace BK286 := Aside0.mk (blk_below (bo BK286) hb); replace HB := Aside0.mk (below_step (bl HB) hb); (try clear hb); (try clear hb2); (try clear hk); (try clear hi)))
   go_meet
   case rel => exact ⟨_, (true), (by first | (with_reducible rfl) | rfl | (simp; done) | (simp [*]; done)), H', ⟨by first | omega | exact Nat.le_refl _⟩, ⟨by (with_reducible repeat (first | apply Kd.V_alloc | apply Kd.V_drewN | apply Kd.V_drew)); exact Kd.V_mono HO1_2.out (fun _ hk => ⟨hk.1.1.1.1, ⟨hk.1.1.1.2, ⟨hk.1.1.2, ⟨hk.1.2, hk.2⟩⟩⟩⟩)⟩, ⟨by (with_reducible repeat (first | apply Kd.V_alloc | apply Kd.V_drewN | apply Kd.V_drew)); exact Kd.V_mono HO1_3.out (fun _ hk => ⟨hk.1.1.1.1, ⟨hk.1.1.1.2, ⟨hk.1.1.2, ⟨hk.1.2, hk.2⟩⟩⟩⟩)⟩, ⟨bo BK283⟩, ⟨bo BK284⟩, ⟨bo BK285⟩, ⟨bo BK286⟩, ⟨bl HB⟩⟩
 case rest =>
  clear HC5
  try clear c11; try clear c13; try clear hcz18_0; try clear hcz18_1; try clear hcz18_2; try clear hcz18_3; try clear hcz21_0; try clear hcz21_1; try clear hcz21_2; try clear hcz21_3; try clear hcz26_0; try clear hcz26_1; try clear hcz26_2; try clear hcz26_3; try clear hcz29_0; try clear hcz29_1; try clear hcz29_2; try clear hcz29_3; try clear hcz34_0; try clear hcz34_1; try clear hcz34_2; try clear hcz34_3; try clear hcz37_0; try clear hcz37_1; try clear hcz37_2; try clear hcz37_3; try clear hfz18_0; try clear hfz18_1; try clear hfz18_2; try clear hfz18_3; try clear hfz21_0; try clear hfz21_1; try clear hfz21_2; try clear hfz21_3; try clear hfz26_0; try clear hfz26_1; try clear hfz26_2; try clear hfz26_3; try clear hfz29_0; try clear hfz29_1; try clear hfz29_2; try clear hfz29_3; try clear hfz34_0; try clear hfz34_1; try clear hfz34_2; try clear hfz34_3; try clear hfz37_0; try clear hfz37_1; try clear hfz37_2; try clear hfz37_3
  obtain ⟨kq, x28_4, rfl, HA, HJ4, HO_285002, HO_285003, BK283, BK284, BK285, BK286, HB⟩ := hcut
  cases kq with
  | zero => exact absurd HA.out (by simp [sandglassref13_Ask.j0])
  | succ kj4 =>
   have H := HA.out
   clear HA
   simp only [sandglassref13_Ask.j0] at H
   by_cases c39 : x28_4 = true
   ·subst c39
    rw [if_pos rfl] at H
    simp only [Option.some.injEq, Prod.mk.injEq] at H
    obtain ⟨rfl, rfl, rfl, rfl, rfl, rfl, rfl, rfl⟩ := H
    have hnb40 := NB284_283.out
    have hnc40 := NB283_284.out
    have hnb41 := NB284_285.out
    have hnc41 := NB285_284.out
    have hnb42 := NB284_286.out
    have hnc42 := NB286_284.out
    obtain ⟨hcz43_0, hcz43_1, hcz43_2, hcz43_3⟩ := ce4 BK284
    obtain ⟨hfz43_0, hfz43_1, hfz43_2, hfz43_3⟩ := fr4 BK284
    have hnb44 := NB285_283.out
    have hnc44 := NB283_285.out
    have hnb45 := NB285_286.out
    have hnc45 := NB286_285.out
    obtain ⟨hcz46_0, hcz46_1, hcz46_2, hcz46_3⟩ := ce4 BK285
    obtain ⟨hfz46_0, hfz46_1, hfz46_2, hfz46_3⟩ := fr4 BK285
    have hnb47 := NB286_283.out
    have hnc47 := NB283_286.out
    obtain ⟨hcz48_0, hcz48_1, hcz48_2, hcz48_3⟩ := ce4 BK286
    obtain ⟨hfz48_0, hfz48_1, hfz48_2, hfz48_3⟩ := fr4 BK286
    go_wp2
    refine bodyPost_ret (results_cc rfl _ _ gb285 gb286 27 32 #[.int .i64 a1_0, .int .i64 a1_1, .slice A1_2 l1_2.length c1_2, .slice A1_3 l1_3.length c1_3] #[.bool false, .int .i64 0, .int .i64 0, .int .i64 0] (0, 0) (0, 0) _ _ rfl (by (with_reducible repeat (first | refine blk_drewN ?_ _ | refine blk_drew ?_ | refine blk_alloc ?_ _)); refine blk_far ?_ NB285_286.out _; (with_reducible repeat (first | refine blk_drewN ?_ _ | refine blk_drew ?_ | refine blk_alloc ?_ _)); refine blk_far ?_ NB285_286.out _; (with_reducible repeat (first | refine blk_drewN ?_ _ | refine blk_drew ?_ | refine blk_alloc ?_ _)); refine blk_far ?_ NB285_286.out _; (with_reducible repeat (first | refine blk_drewN ?_ _ | refine blk_drew ?_ | refine blk_alloc ?_ _)); refine blk_far ?_ NB285_286.out _; (with_reducible repeat (first | refine blk_drewN ?_ _ | refine blk_drew ?_ | refine blk_alloc ?_ _)); refine blk_put (cs := #[.int .i64 a1_0, .int .i64 a1_1, .slice A1_2 l1_2.length c1_2, .slice none 0 0]) ?_ 3 _ rfl; (with_reducible repeat (first | refine blk_drewN ?_ _ | refine blk_drew ?_ | refine blk_alloc ?_ _)); refine blk_put (cs := #[.int .i64 a1_0, .int .i64 a1_1, .slice none 0 0, .slice none 0 0]) ?_ 2 _ rfl; (with_reducible repeat (first | refine blk_drewN ?_ _ | refine blk_drew ?_ | refine blk_alloc ?_ _)); refine blk_put (cs := #[.int .i64 a1_0, .int .i64 0, .slice none 0 0, .slice none 0 0]) ?_ 1 _ rfl; (with_reducible repeat (first | refine blk_drewN ?_ _ | refine blk_drew ?_ | refine blk_alloc ?_ _)); refine blk_put (cs := #[.int .i64 0, .int .i64 0, .slice none 0 0, .slice none 0 0]) ?_ 0 _ rfl; (with_reducible repeat (first | refine blk_drewN ?_ _ | refine blk_drew ?_ | refine blk_alloc ?_ _)); exact BK285.out) Try.underlying27 rfl (by kernel_rfl) rfl (by (with_reducible repeat (first | refine blk_drewN ?_ _ | refine blk_drew ?_ | refine blk_alloc ?_ _)); refine blk_put (cs := #[.bool false, .int .i64 0, .int .i64 0, .int .i64 0]) ?_ 3 _ rfl; (with_reducible repeat (first | refine blk_drewN ?_ _ | refine blk_drew ?_ | refine blk_alloc ?_ _)); refine blk_put (cs := #[.bool false, .int .i64 0, .int .i64 0, .int .i64 0]) ?_ 2 _ rfl; (with_reducible repeat (first | refine blk_drewN ?_ _ | refine blk_drew ?_ | refine blk_alloc ?_ _)); refine blk_put (cs := #[.bool false, .int .i64 0, .int .i64 0, .int .i64 0]) ?_ 1 _ rfl; (with_reducible repeat (first | refine blk_drewN ?_ _ | refine blk_drew ?_ | refine blk_alloc ?_ _)); refine blk_put (cs := #[.bool false, .int .i64 0, .int .i64 0, .int .i64 0]) ?_ 0 _ rfl; (with_reducible repeat (first | refine blk_drewN ?_ _ | refine blk_drew ?_ | refine blk_alloc ?_ _)); refine blk_far ?_ NB286_285.out _; (with_reducible repeat (first | refine blk_drewN ?_ _ | refine blk_drew ?_ | refine blk_alloc ?_ _)); refine blk_far ?_ NB286_285.out _; (with_reducible repeat (first | refine blk_drewN ?_ _ | refine blk_drew ?_ | refine blk_alloc ?_ _)); refine blk_far ?_ NB286_285.out _; (with_reducible repeat (first | refine blk_drewN ?_ _ | refine blk_drew ?_ | refine blk_alloc ?_ _)); refine blk_far ?_ NB286_285.out _; (with_reducible repeat (first | refine blk_drewN ?_ _ | refine blk_drew ?_ | refine blk_alloc ?_ _)); exact BK286.out) Try.underlying32 rfl (by kernel_rfl)) rfl ?_
    exact ⟨_, _, by first | (with_reducible rfl) | rfl | (simp [errW_none, errW_some] <;> rfl) | (simp [*, errW_none, errW_some] <;> rfl), by (with_reducible repeat (first | apply Kd.V_alloc | apply Kd.V_drewN | apply Kd.V_drew)); exact Kd.V_mono (Kd.V_far (p := ⟨gb286, 3, none⟩) (Kd.V_far (p := ⟨gb286, 2, none⟩) (Kd.V_far (p := ⟨gb286, 1, none⟩) (Kd.V_far (p := ⟨gb286, 0, none⟩) (Kd.V_far (p := ⟨gb285, 3, none⟩) (Kd.V_far (p := ⟨gb285, 2, none⟩) (Kd.V_far (p := ⟨gb285, 1, none⟩) (Kd.V_far (p := ⟨gb285, 0, none⟩) (Kd.V_mono (Kd.V_mono HO_285002.out (fun k_ hk => (⟨hk, hk.2.2.2.1⟩ : _ ∧ k_ ≠ gb285))) (fun k_ hk => (⟨hk, hk.1.2.2.2.2⟩ : _ ∧ k_ ≠ gb286))) (fun _ hk => hk.1.2) (.int .i64 a1_0)) (fun _ hk => hk.1.2) (.int .i64 a1_1)) (fun _ hk => hk.1.2) (.slice A1_2 l1_2.length c1_2)) (fun _ hk => hk.1.2) (.slice A1_3 l1_3.length c1_3)) (fun _ hk => hk.2) (.bool false)) (fun _ hk => hk.2) (.int .i64 0)) (fun _ hk => hk.2) (.int .i64 0)) (fun _ hk => hk.2) (.int .i64 0)) (fun _ hk => hk.1.1.1), by (with_reducible repeat (first | apply Kd.V_alloc | apply Kd.V_drewN | apply Kd.V_drew)); exact Kd.V_mono (Kd.V_far (p := ⟨gb286, 3, none⟩) (Kd.V_far (p := ⟨gb286, 2, none⟩) (Kd.V_far (p := ⟨gb286, 1, none⟩) (Kd.V_far (p := ⟨gb286, 0, none⟩) (Kd.V_far (p := ⟨gb285, 3, none⟩) (Kd.V_far (p := ⟨gb285, 2, none⟩) (Kd.V_far (p := ⟨gb285, 1, none⟩) (Kd.V_far (p := ⟨gb285, 0, none⟩) (Kd.V_mono (Kd.V_mono HO_285003.out (fun k_ hk => (⟨hk, hk.2.2.2.1⟩ : _ ∧ k_ ≠ gb285))) (fun k_ hk => (⟨hk, hk.1.2.2.2.2⟩ : _ ∧ k_ ≠ gb286))) (fun _ hk => hk.1.2) (.int .i64 a1_0)) (fun _ hk => hk.1.2) (.int .i64 a1_1)) (fun _ hk => hk.1.2) (.slice A1_2 l1_2.length c1_2)) (fun _ hk => hk.1.2) (.slice A1_3 l1_3.length c1_3)) (fun _ hk => hk.2) (.bool false)) (fun _ hk => hk.2) (.int .i64 0)) (fun _ hk => hk.2) (.int .i64 0)) (fun _ hk => hk.2) (.int .i64 0)) (fun _ hk => hk.1.1.1), bl HB⟩
   ·replace c39 := Bool.eq_false_iff.mpr c39
    subst c39
    rw [if_neg (show ¬ (false = true) by decide)] at H
    obtain ⟨ji49, hji49⟩ : ∃ j_ : Int, (mx a2 a1_0) = j_ := ⟨_, rfl⟩
    replace H : (sandglassref13_Ask.l0 kj4 ji49 a3 0 a0_0 a0_1 a0_2 a0_3 a1_0 a1_1 l1_2 l1_3 ji49 0 ([] : List (S50))) = some (r1, r2, r3, r4, r5, r6, r7, r8) := by first | (rw [hji49] at H; exact H) | (simp only [hji49] at H ⊢; exact H)
    have hji49_ : (if a2 < a1_0 then a1_0 else a2) = ji49 := hji49
    have H' := Aside0.mk H
    clear H
    have hnb50 := NB284_283.out
    have hnc50 := NB283_284.out
    have hnb51 := NB284_285.out
    have hnc51 := NB285_284.out
    have hnb52 := NB284_286.out
    have hnc52 := NB286_284.out
    obtain ⟨hcz53_0, hcz53_1, hcz53_2, hcz53_3⟩ := ce4 BK284
    obtain ⟨hfz53_0, hfz53_1, hfz53_2, hfz53_3⟩ := fr4 BK284
    go_wp2_with (first | ((with_reducible refine gate_dst (N := 10) rfl ?_); refine box_event ?hg (N := 10) ?hd (cs := #[.int .i64 0, .int .i64 0, .slice none 0 0, .slice none 0 0]) (t := 27) ?hr ?_; (case hd => rfl); (case hg => rfl); (case hr => first | (go_simp; done) | (go_simp; rfl)); intro gb290 hg w54 hbox hb; have BK290 := Aside0.mk (hbox); have GW290 := Aside0.mk ((by rw [hg]; exact (below_size (bl HB)) : w.heap.size ≤ gb290)); have GE290 := Aside0.mk ((by rw [hg]; exact (below_size (bl HB)) : w.heap.size ≤ gb290)); have NB283_290 := nb BK283 hg; have NB290_283 := bn BK283 hg; have NB284_290 := nb BK284 hg; have NB290_284 := bn BK284 hg; have NB285_290 := nb BK285 hg; have NB290_285 := bn BK285 hg; have NB286_290 := nb BK286 hg; have NB290_286 := bn BK286 hg; replace HO_285002 := ve HO_285002 hg hb; replace HO_285003 := ve HO_285003 hg hb; replace BK283 := Aside0.mk (blk_below (bo BK283) hb); replace BK284 := Aside0.mk (blk_below (bo BK284) hb); replace BK285 := Aside0.mk (blk_below (bo BK285) hb); replace BK286 := Aside0.mk (blk_below (bo BK286) hb); replace HB := Aside0.mk (below_step (bl HB) hb); clear hb hbox hg; have hnb55 := NB290_283.out; have hnc55 := NB283_290.out; have hnb56 := NB290_284.out; have hnc56 := NB284_290.out; have hnb57 := NB290_285.out; have hnc57 := NB285_290.out; have hnb58 := NB290_286.out; have hnc58 := NB286_290.out; obtain ⟨hcz59_0, hcz59_1, hcz59_2, hcz59_3⟩ := ce4 BK290; obtain ⟨hfz59_0, hfz59_1, hfz59_2, hfz59_3⟩ := fr4 BK290))
    go_loopg [11] kj4 (fun kq v11 w' => ∃ (x11_2 : Int) (x291003_2 : List (S50)) (u291003 : Value), v11 = .int .i64 x11_2 ∧ Aside0 (sandglassref13_Ask.l0 kq ji49 a3 x11_2 a0_0 a0_1 a0_2 a0_3 a1_0 a1_1 l1_2 l1_3 ji49 0 x291003_2 = some (r1, r2, r3, r4, r5, r6, r7, r8)) ∧ Aside0 (kq ≤ kj4) ∧ Aside0 (Kd.V (Kd.int .i64) 3 w' w.heap.size (fun k_ => ((P1_2_ k_ ∨ P1_3_ k_) ∨ w.heap.size ≤ k_) ∧ some k_ ≠ (u291003 : Value).ownBlock ∧ k_ ≠ gb283 ∧ k_ ≠ gb284 ∧ k_ ≠ gb285 ∧ k_ ≠ gb286 ∧ k_ ≠ gb290) (.slice A1_2 l1_2.length c1_2) l1_2) ∧ Aside0 (Kd.V k50 50 w' w.heap.size (fun k_ => ((P1_2_ k_ ∨ P1_3_ k_) ∨ w.heap.size ≤ k_) ∧ some k_ ≠ (u291003 : Value).ownBlock ∧ k_ ≠ gb283 ∧ k_ ≠ gb284 ∧ k_ ≠ gb285 ∧ k_ ≠ gb286 ∧ k_ ≠ gb290) (.slice A1_3 l1_3.length c1_3) l1_3) ∧ Aside0 (Kd.R k50 50 w' w.heap.size (fun k_ => (w.heap.size ≤ k_)) u291003 x291003_2) ∧ Aside0 (w'.heap[gb283]? = some (.cells #[.int .i64 a0_0, .int .i64 a0_1, .int .i64 a0_2, .int .i64 a0_3] 23 (0, 0))) ∧ Aside0 (w'.heap[gb284]? = some (.cells #[.int .i64 a1_0, .int .i64 a1_1, (.slice A1_2 l1_2.length c1_2), (.slice A1_3 l1_3.length c1_3)] 27 (0, 0))) ∧ Aside0 (w'.heap[gb285]? = some (.cells #[.int .i64 0, .int .i64 0, (.slice none 0 0), (.slice none 0 0)] 27 (0, 0))) ∧ Aside0 (w'.heap[gb286]? = some (.cells #[.bool false, .int .i64 0, .int .i64 0, .int .i64 0] 32 (0, 0))) ∧ Aside0 (w'.heap[gb290]? = some (.cells #[.int .i64 ji49, .int .i64 0, (.slice none 0 0), u291003] 27 (0, 0))) ∧ Aside0 (Below w.heap.size w w'))
    case atStart => exact ⟨(0), (([] : List (S50))), (.slice none 0 0), (by first | (with_reducible rfl) | rfl | (simp; done) | (simp [*]; done)), H', ⟨Nat.le_refl _⟩, ⟨by (with_reducible repeat (first | apply Kd.V_alloc | apply Kd.V_drewN | apply Kd.V_drew)); exact Kd.V_mono (Kd.V_far (p := ⟨gb290, 3, none⟩) (Kd.V_far (p := ⟨gb290, 2, none⟩) (Kd.V_far (p := ⟨gb290, 1, none⟩) (Kd.V_far (p := ⟨gb290, 0, none⟩) (Kd.V_mono HO_285002.out (fun k_ hk => (⟨hk, hk.2⟩ : _ ∧ k_ ≠ gb290))) (fun _ hk => hk.2) (.int .i64 ji49)) (fun _ hk => hk.2) (.int .i64 0)) (fun _ hk => hk.2) (.slice none 0 0)) (fun _ hk => hk.2) (.slice none 0 0)) (fun _ hk => ⟨hk.1.1.1, ⟨(by simp [Value.ownBlock]), ⟨hk.1.1.2.1, ⟨hk.1.1.2.2.1, ⟨hk.1.1.2.2.2.1, ⟨hk.1.1.2.2.2.2, hk.1.2⟩⟩⟩⟩⟩⟩)⟩, ⟨by (with_reducible repeat (first | apply Kd.V_alloc | apply Kd.V_drewN | apply Kd.V_drew)); exact Kd.V_mono (Kd.V_far (p := ⟨gb290, 3, none⟩) (Kd.V_far (p := ⟨gb290, 2, none⟩) (Kd.V_far (p := ⟨gb290, 1, none⟩) (Kd.V_far (p := ⟨gb290, 0, none⟩) (Kd.V_mono HO_285003.out (fun k_ hk => (⟨hk, hk.2⟩ : _ ∧ k_ ≠ gb290))) (fun _ hk => hk.2) (.int .i64 ji49)) (fun _ hk => hk.2) (.int .i64 0)) (fun _ hk => hk.2) (.slice none 0 0)) (fun _ hk => hk.2) (.slice none 0 0)) (fun _ hk => ⟨hk.1.1.1, ⟨(by simp [Value.ownBlock]), ⟨hk.1.1.2.1, ⟨hk.1.1.2.2.1, ⟨hk.1.1.2.2.2.1, ⟨hk.1.1.2.2.2.2, hk.1.2⟩⟩⟩⟩⟩⟩)⟩, ⟨by first | exact Kd.R_nil _ _ _ _ _ | exact Kd.N_nil _ _ _ _ _ | exact Kd.V_nil _ _ _ _ _ | exact Kd.Q_nil _ _ _ _ _ | exact Kd.S_nil _ _ _ _ _⟩, ⟨by (with_reducible repeat (first | refine blk_drewN ?_ _ | refine blk_drew ?_ | refine blk_alloc ?_ _)); refine blk_far ?_ NB283_290.out _; (with_reducible repeat (first | refine blk_drewN ?_ _ | refine blk_drew ?_ | refine blk_alloc ?_ _)); refine blk_far ?_ NB283_290.out _; (with_reducible repeat (first | refine blk_drewN ?_ _ | refine blk_drew ?_ | refine blk_alloc ?_ _)); refine blk_far ?_ NB283_290.out _; (with_reducible repeat (first | refine blk_drewN ?_ _ | refine blk_drew ?_ | refine blk_alloc ?_ _)); refine blk_far ?_ NB283_290.out _; (with_reducible repeat (first | refine blk_drewN ?_ _ | refine blk_drew ?_ | refine blk_alloc ?_ _)); exact BK283.out⟩, ⟨by (with_reducible repeat (first | refine blk_drewN ?_ _ | refine blk_drew ?_ | refine blk_alloc ?_ _)); refine blk_far ?_ NB284_290.out _; (with_reducible repeat (first | refine blk_drewN ?_ _ | refine blk_drew ?_ | refine blk_alloc ?_ _)); refine blk_far ?_ NB284_290.out _; (with_reducible repeat (first | refine blk_drewN ?_ _ | refine blk_drew ?_ | refine blk_alloc ?_ _)); refine blk_far ?_ NB284_290.out _; (with_reducible repeat (first | refine blk_drewN ?_ _ | refine blk_drew ?_ | refine blk_alloc ?_ _)); refine blk_far ?_ NB284_290.out _; (with_reducible repeat (first | refine blk_drewN ?_ _ | refine blk_drew ?_ | refine blk_alloc ?_ _)); exact BK284.out⟩, ⟨by (with_reducible repeat (first | refine blk_drewN ?_ _ | refine blk_drew ?_ | refine blk_alloc ?_ _)); refine blk_far ?_ NB285_290.out _; (with_reducible repeat (first | refine blk_drewN ?_ _ | refine blk_drew ?_ | refine blk_alloc ?_ _)); refine blk_far ?_ NB285_290.out _; (with_reducible repeat (first | refine blk_drewN ?_ _ | refine blk_drew ?_ | refine blk_alloc ?_ _)); refine blk_far ?_ NB285_290.out _; (with_reducible repeat (first | refine blk_drewN ?_ _ | refine blk_drew ?_ | refine blk_alloc ?_ _)); refine blk_far ?_ NB285_290.out _; (with_reducible repeat (first | refine blk_drewN ?_ _ | refine blk_drew ?_ | refine blk_alloc ?_ _)); exact BK285.out⟩, ⟨by (with_reducible repeat (first | refine blk_drewN ?_ _ | refine blk_drew ?_ | refine blk_alloc ?_ _)); refine blk_far ?_ NB286_290.out _; (with_reducible repeat (first | refine blk_drewN ?_ _ | refine blk_drew ?_ | refine blk_alloc ?_ _)); refine blk_far ?_ NB286_290.out _; (with_reducible repeat (first | refine blk_drewN ?_ _ | refine blk_drew ?_ | refine blk_alloc ?_ _)); refine blk_far ?_ NB286_290.out _; (with_reducible repeat (first | refine blk_drewN ?_ _ | refine blk_drew ?_ | refine blk_alloc ?_ _)); refine blk_far ?_ NB286_290.out _; (with_reducible repeat (first | refine blk_drewN ?_ _ | refine blk_drew ?_ | refine blk_alloc ?_ _)); exact BK286.out⟩, ⟨by (with_reducible repeat (first | refine blk_drewN ?_ _ | refine blk_drew ?_ | refine blk_alloc ?_ _)); refine blk_put (cs := #[.int .i64 ji49, .int .i64 0, .slice none 0 0, .slice none 0 0]) ?_ 3 _ rfl; (with_reducible repeat (first | refine blk_drewN ?_ _ | refine blk_drew ?_ | refine blk_alloc ?_ _)); refine blk_put (cs := #[.int .i64 ji49, .int .i64 0, .slice none 0 0, .slice none 0 0]) ?_ 2 _ rfl; (with_reducible repeat (first | refine blk_drewN ?_ _ | refine blk_drew ?_ | refine blk_alloc ?_ _)); refine blk_put (cs := #[.int .i64 ji49, .int .i64 0, .slice none 0 0, .slice none 0 0]) ?_ 1 _ rfl; (with_reducible repeat (first | refine blk_drewN ?_ _ | refine blk_drew ?_ | refine blk_alloc ?_ _)); refine blk_put (cs := #[.int .i64 0, .int .i64 0, .slice none 0 0, .slice none 0 0]) ?_ 0 _ rfl; (with_reducible repeat (first | refine blk_drewN ?_ _ | refine blk_drew ?_ | refine blk_alloc ?_ _)); exact BK290.out⟩, ⟨bl HB⟩⟩
    case round =>
     clear H'
     try clear c11; try clear c13; try clear c39; try clear hcz18_0; try clear hcz18_1; try clear hcz18_2; try clear hcz18_3; try clear hcz21_0; try clear hcz21_1; try clear hcz21_2; try clear hcz21_3; try clear hcz26_0; try clear hcz26_1; try clear hcz26_2; try clear hcz26_3; try clear hcz29_0; try clear hcz29_1; try clear hcz29_2; try clear hcz29_3; try clear hcz34_0; try clear hcz34_1; try clear hcz34_2; try clear hcz34_3; try clear hcz37_0; try clear hcz37_1; try clear hcz37_2; try clear hcz37_3; try clear hcz43_0; try clear hcz43_1; try clear hcz43_2; try clear hcz43_3; try clear hcz46_0; try clear hcz46_1; try clear hcz46_2; try clear hcz46_3; try clear hcz48_0; try clear hcz48_1; try clear hcz48_2; try clear hcz48_3; try clear hcz53_0; try clear hcz53_1; try clear hcz53_2; try clear hcz53_3; try clear hcz59_0; try clear hcz59_1; try clear hcz59_2; try clear hcz59_3; try clear hfz18_0; try clear hfz18_1; try clear hfz18_2; try clear hfz18_3; try clear hfz21_0; try clear hfz21_1; try clear hfz21_2; try clear hfz21_3; try clear hfz26_0; try clear hfz26_1; try clear hfz26_2; try clear hfz26_3; try clear hfz29_0; try clear hfz29_1; try clear hfz29_2; try clear hfz29_3; try clear hfz34_0; try clear hfz34_1; try clear hfz34_2; try clear hfz34_3; try clear hfz37_0; try clear hfz37_1; try clear hfz37_2; try clear hfz37_3; try clear hfz43_0; try clear hfz43_1; try clear hfz43_2; try clear hfz43_3; try clear hfz46_0; try clear hfz46_1; try clear hfz46_2; try clear hfz46_3; try clear hfz48_0; try clear hfz48_1; try clear hfz48_2; try clear hfz48_3; try clear hfz53_0; try clear hfz53_1; try clear hfz53_2; try clear hfz53_3; try clear hfz59_0; try clear hfz59_1; try clear hfz59_2; try clear hfz59_3
     obtain ⟨x11_2, x291003_2, u291003, rfl, HA, HK2, HO_285002, HO_285003, HO_291003, BK283, BK284, BK285, BK286, BK290, HB⟩ := hrel
     cases gk with
     | zero => exact absurd HA.out (by simp [sandglassref13_Ask.l0])
     | succ k2 =>
      have H := HA.out
      clear HA
      simp only [sandglassref13_Ask.l0] at H
      by_cases c60 : x11_2 < (l1_3.length : Int)
      ·rw [if_pos c60] at H
       have c60b0 : decide (x11_2 < (l1_3.length : Int)) = true := decide_eq_true c60
       clear c60
       by_cases c61 : 0 ≤ x11_2
       ·rw [if_pos c61] at H
        have c61b0 : decide (0 ≤ x11_2) = true := decide_eq_true c61
        clear c61
        by_cases c62 : ((rd_T50 l1_3 x11_2).f0) > (wrap64 (ji49 - a0_2))
        ·rw [if_pos c62] at H
         have c62b0 : decide ((wrap64 (ji49 - a0_2)) < ((rd_T50 l1_3 x11_2).f0)) = true := decide_eq_true c62
         clear c62
         by_cases c63 : x291003_2.length < 8796093022208
         ·rw [if_pos c63] at H
          have LMc63 := Aside0.mk c63
          clear c63
          obtain ⟨y293, hy293⟩ : ∃ y_ : List (S50), y_ = (x291003_2 ++ [(⟨(rd_T50 l1_3 x11_2).f0, (rd_T50 l1_3 x11_2).f1⟩ : S50)]) := ⟨_, rfl⟩
          replace H : (sandglassref13_Ask.l0 k2 ji49 a3 (wrap64 (x11_2 + 1)) a0_0 a0_1 a0_2 a0_3 a1_0 a1_1 l1_2 l1_3 ji49 0 y293) = some (r1, r2, r3, r4, r5, r6, r7, r8) := by first | (rw [hy293]; with_reducible exact H) | (have H2_ := (Option.bind_some _ _).symm.trans H; rw [hy293]; with_reducible exact H2_) | (have H2_ := (Option.bind_some _ _).symm.trans H; with_reducible exact H2_) | with_reducible exact H | (rw [hy293]; exact H) | exact H
          have Ny293 := Aside0.mk hy293
          clear hy293
          have H' := Aside0.mk H
          clear H
          have hnb64 := NB284_283.out
          have hnc64 := NB283_284.out
          have hnb65 := NB284_285.out
          have hnc65 := NB285_284.out
          have hnb66 := NB284_286.out
          have hnc66 := NB286_284.out
          have hnb67 := NB284_290.out
          have hnc67 := NB290_284.out
          obtain ⟨hcz68_0, hcz68_1, hcz68_2, hcz68_3⟩ := ce4 BK284
          obtain ⟨hfz68_0, hfz68_1, hfz68_2, hfz68_3⟩ := fr4 BK284
          try go_wp2
          replace HO_285002 := Aside0.mk (Kd.V_drew HO_285002.out)
          replace HO_285003 := Aside0.mk (Kd.V_drew HO_285003.out)
          replace HO_291003 := Aside0.mk (Kd.R_drew HO_291003.out)
          replace BK283 := Aside0.mk (blk_drew BK283.out)
          replace BK284 := Aside0.mk (blk_drew BK284.out)
          replace BK285 := Aside0.mk (blk_drew BK285.out)
          replace BK286 := Aside0.mk (blk_drew BK286.out)
          replace BK290 := Aside0.mk (blk_drew BK290.out)
          replace HB := Aside0.mk (below_drew1 HB.out)
          have p291 : 0 ≤ (x11_2 : Int) := of_decide_eq_true (by first | (with_reducible assumption) | assumption)
          have q291 : x11_2 < (l1_3.length : Int) := of_decide_eq_true (by first | (with_reducible assumption) | assumption)
          obtain ⟨ad291, e291, hx291_0, hx291_1⟩ := at_T50 (Kd.V_reads' HO_285003.out).2.2 x11_2 p291 q291
          cases e291
          replace p291 := eq_true p291
          replace q291 := eq_true q291
          refine start_ (n := 11) (S := fun w' => w'.cell? ⟨gb284, 0, none⟩ = some (.int .i64 a1_0) ∧ w'.cell? ⟨gb284, 1, none⟩ = some (.int .i64 a1_1) ∧ w'.cell? ⟨gb284, 2, none⟩ = some (.slice A1_2 l1_2.length c1_2) ∧ w'.cell? ⟨gb284, 3, none⟩ = some (.slice (some ad291) l1_3.length c1_3) ∧ w'.cell? ⟨gb283, 0, none⟩ = some (.int .i64 a0_0) ∧ w'.cell? ⟨gb283, 1, none⟩ = some (.int .i64 a0_1) ∧ w'.cell? ⟨gb283, 2, none⟩ = some (.int .i64 a0_2) ∧ w'.cell? ⟨gb283, 3, none⟩ = some (.int .i64 a0_3) ∧ w'.cell? (ad291.add ((x11_2).toNat * 2)) = some (.int .i64 ((rd_T50 l1_3 x11_2).f0)) ∧ w'.cell? ⟨(ad291.add ((x11_2).toNat * 2)).block, (ad291.add ((x11_2).toNat * 2)).off + 1, none⟩ = some (.int .i64 ((rd_T50 l1_3 x11_2).f1))) (ds := []) #[false, false, false, false, false, false, false, false, false, false, false] (by kernel_rfl) rfl rfl ⟨(blk_cell BK284.out 0).trans rfl, (blk_cell BK284.out 1).trans rfl, (blk_cell BK284.out 2).trans rfl, (blk_cell BK284.out 3).trans rfl, (blk_cell BK283.out 0).trans rfl, (blk_cell BK283.out 1).trans rfl, (blk_cell BK283.out 2).trans rfl, (blk_cell BK283.out 3).trans rfl, hx291_0, hx291_1⟩ (fun hHeld => ?_); refine with_tabW sandglassref13_Ask.tab8 sandglassref13_Ask.bits8 (fun HT_ HW_ => ?_)
          generalize wr.drew = w69 at HO_285002 HO_285003 HO_291003 BK283 BK284 BK285 BK286 BK290 HB hx291_0 hx291_1 hHeld ⊢
          refine pureA 0 44 HT_ ?_
          refine pureA 2 46 HT_ ?_
          refine pureA 6 50 HT_ ?_
          refine pureA 7 51 HT_ ?_
          refine takeA 1 45 HT_ HW_ hHeld ?_
          refine pureA 3 47 HT_ ?_
          refine pureA 4 48 HT_ ?_
          refine takeA 5 49 HT_ HW_ hHeld ?_
          refine takeA 8 52 HT_ HW_ hHeld ?_
          refine pureA 9 53 HT_ ?_
          refine pureA 10 54 HT_ ?_
          refine done_ (done_of HT_.out (by kernel_rfl)) ?_
          try go_wp2
          replace HO_285002 := Aside0.mk (Kd.V_drew HO_285002.out)
          replace HO_285003 := Aside0.mk (Kd.V_drew HO_285003.out)
          replace HO_291003 := Aside0.mk (Kd.R_drew HO_291003.out)
          replace BK283 := Aside0.mk (blk_drew BK283.out)
          replace BK284 := Aside0.mk (blk_drew BK284.out)
          replace BK285 := Aside0.mk (blk_drew BK285.out)
          replace BK286 := Aside0.mk (blk_drew BK286.out)
          replace BK290 := Aside0.mk (blk_drew BK290.out)
          replace HB := Aside0.mk (below_drew1 HB.out)
          have p292 : 0 ≤ (x11_2 : Int) := of_decide_eq_true (by first | (with_reducible assumption) | assumption)
          have q292 : x11_2 < (l1_3.length : Int) := of_decide_eq_true (by first | (with_reducible assumption) | assumption)
          obtain ⟨ad292, e292, hx292_0, hx292_1⟩ := at_T50 (Kd.V_reads' HO_285003.out).2.2 x11_2 p292 q292
          obtain rfl : ad291 = ad292 := (by injection e292)
          replace p292 := eq_true p292
          replace q292 := eq_true q292
          refine start_ (n := 11) (S := fun w' => w'.cell? ⟨gb290, 0, none⟩ = some (.int .i64 ji49) ∧ w'.cell? ⟨gb290, 1, none⟩ = some (.int .i64 0) ∧ w'.cell? ⟨gb290, 2, none⟩ = some (.slice none 0 0) ∧ w'.cell? ⟨gb290, 3, none⟩ = some (u291003) ∧ w'.cell? ⟨gb284, 0, none⟩ = some (.int .i64 a1_0) ∧ w'.cell? ⟨gb284, 1, none⟩ = some (.int .i64 a1_1) ∧ w'.cell? ⟨gb284, 2, none⟩ = some (.slice A1_2 l1_2.length c1_2) ∧ w'.cell? ⟨gb284, 3, none⟩ = some (.slice (some ad291) l1_3.length c1_3) ∧ w'.cell? (ad291.add ((x11_2).toNat * 2)) = some (.int .i64 ((rd_T50 l1_3 x11_2).f0)) ∧ w'.cell? ⟨(ad291.add ((x11_2).toNat * 2)).block, (ad291.add ((x11_2).toNat * 2)).off + 1, none⟩ = some (.int .i64 ((rd_T50 l1_3 x11_2).f1))) (ds := [8, 10]) #[false, false, false, false, false, false, false, false, false, false, false] (by kernel_rfl) rfl rfl ⟨(blk_cell BK290.out 0).trans rfl, (blk_cell BK290.out 1).trans rfl, (blk_cell BK290.out 2).trans rfl, (blk_cell BK290.out 3).trans rfl, (blk_cell BK284.out 0).trans rfl, (blk_cell BK284.out 1).trans rfl, (blk_cell BK284.out 2).trans rfl, (blk_cell BK284.out 3).trans rfl, hx292_0, hx292_1⟩ (fun hHeld => ?_); refine with_tabW sandglassref13_Ask.tab9 sandglassref13_Ask.bits9 (fun HT_ HW_ => ?_)
          generalize w69.drew = w70 at HO_285002 HO_285003 HO_291003 BK283 BK284 BK285 BK286 BK290 HB hx292_0 hx292_1 hHeld ⊢
          refine pureA 0 55 HT_ ?_
          refine pureA 2 57 HT_ ?_
          refine pureA 4 59 HT_ ?_
          refine takeA 1 56 HT_ HW_ hHeld ?_
          refine takeA 3 58 HT_ HW_ hHeld ?_
          refine pureA 5 60 HT_ ?_
          refine takeA 6 61 HT_ HW_ hHeld ?_
          refine one_ (i := 7) (N := some 62) #[true, true, true, true, true, true, true, true, false, false, false] rfl rfl (one_of HT_.out (by kernel_rfl)) (by decide) (fun K hK => ?_)
          refine value_ (w1 := ?_) (v := ?_) (by rfl) rfl ?_ ?_
          rotate_left 2
          ·go_simp
           constructor
           ·rfl
           ·rfl
          refine hK.out _ _ ⟨(blk_cell (blk_alloc BK290.out _) 0).trans rfl, (blk_cell (blk_alloc BK290.out _) 1).trans rfl, (blk_cell (blk_alloc BK290.out _) 2).trans rfl, (blk_cell (blk_alloc BK290.out _) 3).trans rfl, (blk_cell (blk_alloc BK284.out _) 0).trans rfl, (blk_cell (blk_alloc BK284.out _) 1).trans rfl, (blk_cell (blk_alloc BK284.out _) 2).trans rfl, (blk_cell (blk_alloc BK284.out _) 3).trans rfl, (World.cell?_alloc_lt _ _ _ (World.block_lt_of_cell? _ _ (hHeld.2.2.2.2.2.2.2.2.1))).trans (hHeld.2.2.2.2.2.2.2.2.1), (World.cell?_alloc_lt _ _ _ (World.block_lt_of_cell? _ _ (hHeld.2.2.2.2.2.2.2.2.2))).trans (hHeld.2.2.2.2.2.2.2.2.2)⟩ (fun hHeld => ?_)
          clear hK K
          refine norm_ (a' := ?_) ?_ ?_
          rotate_left
          ·show Act.put _ (some 62) _ = _
           simp only [Act.put, List.setIfInBounds_toArray, List.set_cons_zero, List.set_cons_succ, i64_w, i32_w]
           rfl
          refine last_ (i := 8) (N := some 63) #[true, true, true, true, true, true, true, true, true, false, false] rfl rfl (one_of HT_.out (by kernel_rfl)) (by decide) (fun K hK => ?_)
          refine Kd.R_append_step k50 (w0 := w) w.heap.size (by rfl) (.tmp 56) (.tmp 62) 25 50 (.agg #[(.int .i64 0), (.int .i64 0)]) 16 rfl Try.underlying25 info50 rfl (by decide) (by omega) u291003 x291003_2 (⟨(rd_T50 l1_3 x11_2).f0, (rd_T50 l1_3 x11_2).f1⟩ : S50) [.int .i64 ((rd_T50 l1_3 x11_2).f0), .int .i64 ((rd_T50 l1_3 x11_2).f1)] (fun k_ => (w.heap.size ≤ k_)) (fun _ => False) rfl rfl ?aP (fun _ hk => hk.elim) ?aF ?aO ?aB ?aS ?aL ?_
          (case aP => exact k50_mkM _ _ _ (⟨(rd_T50 l1_3 x11_2).f0, (rd_T50 l1_3 x11_2).f1⟩ : S50))
          (case aB => exact (bl HB))
          (case aF => exact (fun k_ hk => (Nat.le_trans (below_size (bl HB)) hk)))
          (case aO => exact (by (with_reducible repeat (first | apply Kd.R_alloc | apply Kd.R_drewN | apply Kd.R_drew)); exact HO_291003.out))
          (case aS => exact (below_size (bl HB)))
          (case aL => have := LMc63.out; omega)
          intro v294 w71 ho hb hg hat
          rw [← Ny293.out] at ho
          have HO295 := Aside0.mk (ho)
          replace HO_285002 := Aside0.mk (Kd.V_afterv (ok := (fun k_ => ((P1_2_ k_ ∨ P1_3_ k_) ∨ w.heap.size ≤ k_) ∧ k_ ≠ gb283 ∧ k_ ≠ gb284 ∧ k_ ≠ gb285 ∧ k_ ≠ gb286 ∧ k_ ≠ gb290)) (by (with_reducible repeat (first | apply Kd.V_alloc | apply Kd.V_drewN | apply Kd.V_drew)); exact Kd.V_mono HO_285002.out (fun _ hk => ⟨⟨hk.1, ⟨hk.2.2.1, ⟨hk.2.2.2.1, ⟨hk.2.2.2.2.1, ⟨hk.2.2.2.2.2.1, hk.2.2.2.2.2.2⟩⟩⟩⟩⟩, hk.2.1⟩)) hg hat)
          replace HO_285003 := Aside0.mk (Kd.V_afterv (ok := (fun k_ => ((P1_2_ k_ ∨ P1_3_ k_) ∨ w.heap.size ≤ k_) ∧ k_ ≠ gb283 ∧ k_ ≠ gb284 ∧ k_ ≠ gb285 ∧ k_ ≠ gb286 ∧ k_ ≠ gb290)) (by (with_reducible repeat (first | apply Kd.V_alloc | apply Kd.V_drewN | apply Kd.V_drew)); exact Kd.V_mono HO_285003.out (fun _ hk => ⟨⟨hk.1, ⟨hk.2.2.1, ⟨hk.2.2.2.1, ⟨hk.2.2.2.2.1, ⟨hk.2.2.2.2.2.1, hk.2.2.2.2.2.2⟩⟩⟩⟩⟩, hk.2.1⟩)) hg hat)
          replace BK283 := Aside0.mk (blk_grown (g := gb283) (o := .cells #[.int .i64 a0_0, .int .i64 a0_1, .int .i64 a0_2, .int .i64 a0_3] 23 (0, 0)) (bo BK283) hg (Kd.R_ne HO_291003.out BK283.out (by decide)))
          replace BK284 := Aside0.mk (blk_grown (g := gb284) (o := .cells #[.int .i64 a1_0, .int .i64 a1_1, .slice A1_2 l1_2.length c1_2, .slice (some ad291) l1_3.length c1_3] 27 (0, 0)) (bo BK284) hg (Kd.R_ne HO_291003.out BK284.out (by decide)))
          replace BK285 := Aside0.mk (blk_grown (g := gb285) (o := .cells #[.int .i64 0, .int .i64 0, .slice none 0 0, .slice none 0 0] 27 (0, 0)) (bo BK285) hg (Kd.R_ne HO_291003.out BK285.out (by decide)))
          replace BK286 := Aside0.mk (blk_grown (g := gb286) (o := .cells #[.bool false, .int .i64 0, .int .i64 0, .int .i64 0] 32 (0, 0)) (bo BK286) hg (Kd.R_ne HO_291003.out BK286.out (by decide)))
          replace BK290 := Aside0.mk (blk_grown (g := gb290) (o := .cells #[.int .i64 ji49, .int .i64 0, .slice none 0 0, u291003] 27 (0, 0)) (bo BK290) hg (Kd.R_ne HO_291003.out BK290.out (by decide)))
          replace HB := Aside0.mk (hb)
          clear HO_291003
          clear ho hb hg hat
          obtain ⟨Ao72, co72, eo72⟩ := Kd.R_slice HO295.out
          (first | subst eo72 | (injection eo72 with f1_ f2_ f3_; have f4_ := f1_.symm; have f5_ := f3_.symm; clear f1_ f2_ f3_; subst f4_; subst f5_))
          refine hK.out _ _ ?_
          clear hK K
          refine norm_ (a' := ?_) ?_ ?_
          rotate_left
          ·show Act.put _ (some 63) _ = _
           simp only [Act.put, List.setIfInBounds_toArray, List.set_cons_zero, List.set_cons_succ, i64_w, i32_w]
           rfl
          refine pureA 9 64 HT_ ?_
          refine last_ (i := 10) (N := none) #[true, true, true, true, true, true, true, true, true, true, true] rfl rfl (one_of HT_.out (by kernel_rfl)) (by decide) (fun K hK => ?_)
          have hs73 : w71.cell? ⟨gb290, 3, none⟩ = some (u291003) := (blk_cell BK290.out 3).trans rfl
          have hfs73 := blk_frozen BK290.out 3
          have hns73_0 := NB283_290.out
          have hns73_1 := NB284_290.out
          have hns73_2 := NB285_290.out
          have hns73_3 := NB286_290.out
          have hms73_0 := NB290_283.out
          have hms73_1 := NB290_284.out
          have hms73_2 := NB290_285.out
          have hms73_3 := NB290_286.out
          refine skip_ (w1 := ?_) (by rfl) rfl ?_ ?_
          rotate_left
          ·go_simp
           rfl
          refine hK.out _ _ ?_
          clear hK K
          refine done_ (done_of HT_.out (by kernel_rfl)) ?_
          try go_wp2
          go_roundg k2
          case measure => have := HJ4.out; have := HK2.out; omega
          case rel => exact ⟨(wrap64 (x11_2 + 1)), (y293), (.slice Ao72 y293.length co72), (by first | (with_reducible rfl) | rfl | (simp; done) | (simp [*]; done)), (by first | exact H' | (rw [hji49]; exact H')), ⟨by have := HJ4.out; have := HK2.out; omega⟩, ⟨by (with_reducible repeat (first | apply Kd.V_alloc | apply Kd.V_drewN | apply Kd.V_drew)); exact Kd.V_mono (Kd.V_far (p := ⟨gb290, 3, none⟩) (Kd.V_mono HO_285002.out (fun k_ hk => (⟨hk, hk.1.2.2.2.2.2⟩ : _ ∧ k_ ≠ gb290))) (fun _ hk => hk.2) (.slice Ao72 y293.length co72)) (fun _ hk => ⟨hk.1.1.1, ⟨hk.1.2, ⟨hk.1.1.2.1, ⟨hk.1.1.2.2.1, ⟨hk.1.1.2.2.2.1, ⟨hk.1.1.2.2.2.2.1, hk.1.1.2.2.2.2.2⟩⟩⟩⟩⟩⟩)⟩, ⟨by (with_reducible repeat (first | apply Kd.V_alloc | apply Kd.V_drewN | apply Kd.V_drew)); exact Kd.V_mono (Kd.V_far (p := ⟨gb290, 3, none⟩) (Kd.V_mono HO_285003.out (fun k_ hk => (⟨hk, hk.1.2.2.2.2.2⟩ : _ ∧ k_ ≠ gb290))) (fun _ hk => hk.2) (.slice Ao72 y293.length co72)) (fun _ hk => ⟨hk.1.1.1, ⟨hk.1.2, ⟨hk.1.1.2.1, ⟨hk.1.1.2.2.1, ⟨hk.1.1.2.2.2.1, ⟨hk.1.1.2.2.2.2.1, hk.1.1.2.2.2.2.2⟩⟩⟩⟩⟩⟩)⟩, ⟨by (with_reducible repeat (first | apply Kd.R_alloc | apply Kd.R_drewN | apply Kd.R_drew)); exact Kd.R_mono (Kd.R_far (p := ⟨gb290, 3, none⟩) (Kd.R_types HO295.out BK290.out (by decide)) (fun _ hk => hk.2) (.slice Ao72 y293.length co72)) (fun _ hk => hk.1)⟩, ⟨by (with_reducible repeat (first | refine blk_drewN ?_ _ | refine blk_drew ?_ | refine blk_alloc ?_ _)); refine blk_far ?_ NB283_290.out _; (with_reducible repeat (first | refine blk_drewN ?_ _ | refine blk_drew ?_ | refine blk_alloc ?_ _)); first | exact BK283.out | (rw [c62b0]; exact BK283.out) | (rw [c61b0]; exact BK283.out) | (rw [c60b0]; exact BK283.out)⟩, ⟨by (with_reducible repeat (first | refine blk_drewN ?_ _ | refine blk_drew ?_ | refine blk_alloc ?_ _)); refine blk_far ?_ NB284_290.out _; (with_reducible repeat (first | refine blk_drewN ?_ _ | refine blk_drew ?_ | refine blk_alloc ?_ _)); first | exact BK284.out | (rw [c62b0]; exact BK284.out) | (rw [c61b0]; exact BK284.out) | (rw [c60b0]; exact BK284.out)⟩, ⟨by (with_reducible repeat (first | refine blk_drewN ?_ _ | refine blk_drew ?_ | refine blk_alloc ?_ _)); refine blk_far ?_ NB285_290.out _; (with_reducible repeat (first | refine blk_drewN ?_ _ | refine blk_drew ?_ | refine blk_alloc ?_ _)); first | exact BK285.out | (rw [c62b0]; exact BK285.out) | (rw [c61b0]; exact BK285.out) | (rw [c60b0]; exact BK285.out)⟩, ⟨by (with_reducible repeat (first | refine blk_drewN ?_ _ | refine blk_drew ?_ | refine blk_alloc ?_ _)); refine blk_far ?_ NB286_290.out _; (with_reducible repeat (first | refine blk_drewN ?_ _ | refine blk_drew ?_ | refine blk_alloc ?_ _)); first | exact BK286.out | (rw [c62b0]; exact BK286.out) | (rw [c61b0]; exact BK286.out) | (rw [c60b0]; exact BK286.out)⟩, ⟨by (with_reducible repeat (first | refine blk_drewN ?_ _ | refine blk_drew ?_ | refine blk_alloc ?_ _)); refine blk_put (cs := #[.int .i64 ji49, .int .i64 0, .slice none 0 0, u291003]) ?_ 3 _ rfl; (with_reducible repeat (first | refine blk_drewN ?_ _ | refine blk_drew ?_ | refine blk_alloc ?_ _)); first | exact BK290.out | (rw [c62b0]; exact BK290.out) | (rw [c61b0]; exact BK290.out) | (rw [c60b0]; exact BK290.out)⟩, ⟨bl HB⟩⟩
         ·rw [if_neg c63] at H
          exact absurd H (by simp)
        ·rw [if_neg c62] at H
         have c62b0 : decide ((wrap64 (ji49 - a0_2)) < ((rd_T50 l1_3 x11_2).f0)) = false := decide_eq_false c62
         clear c62
         have H' := Aside0.mk H
         clear H
         have hnb74 := NB284_283.out
         have hnc74 := NB283_284.out
         have hnb75 := NB284_285.out
         have hnc75 := NB285_284.out
         have hnb76 := NB284_286.out
         have hnc76 := NB286_284.out
         have hnb77 := NB284_290.out
         have hnc77 := NB290_284.out
         obtain ⟨hcz78_0, hcz78_1, hcz78_2, hcz78_3⟩ := ce4 BK284
         obtain ⟨hfz78_0, hfz78_1, hfz78_2, hfz78_3⟩ := fr4 BK284
         try go_wp2
         replace HO_285002 := Aside0.mk (Kd.V_drew HO_285002.out)
         replace HO_285003 := Aside0.mk (Kd.V_drew HO_285003.out)
         replace HO_291003 := Aside0.mk (Kd.R_drew HO_291003.out)
         replace BK283 := Aside0.mk (blk_drew BK283.out)
         replace BK284 := Aside0.mk (blk_drew BK284.out)
         replace BK285 := Aside0.mk (blk_drew BK285.out)
         replace BK286 := Aside0.mk (blk_drew BK286.out)
         replace BK290 := Aside0.mk (blk_drew BK290.out)
         replace HB := Aside0.mk (below_drew1 HB.out)
         have p291 : 0 ≤ (x11_2 : Int) := of_decide_eq_true (by first | (with_reducible assumption) | assumption)
         have q291 : x11_2 < (l1_3.length : Int) := of_decide_eq_true (by first | (with_reducible assumption) | assumption)
         obtain ⟨ad291, e291, hx291_0, hx291_1⟩ := at_T50 (Kd.V_reads' HO_285003.out).2.2 x11_2 p291 q291
         cases e291
         replace p291 := eq_true p291
         replace q291 := eq_true q291
         refine start_ (n := 11) (S := fun w' => w'.cell? ⟨gb284, 0, none⟩ = some (.int .i64 a1_0) ∧ w'.cell? ⟨gb284, 1, none⟩ = some (.int .i64 a1_1) ∧ w'.cell? ⟨gb284, 2, none⟩ = some (.slice A1_2 l1_2.length c1_2) ∧ w'.cell? ⟨gb284, 3, none⟩ = some (.slice (some ad291) l1_3.length c1_3) ∧ w'.cell? ⟨gb283, 0, none⟩ = some (.int .i64 a0_0) ∧ w'.cell? ⟨gb283, 1, none⟩ = some (.int .i64 a0_1) ∧ w'.cell? ⟨gb283, 2, none⟩ = some (.int .i64 a0_2) ∧ w'.cell? ⟨gb283, 3, none⟩ = some (.int .i64 a0_3) ∧ w'.cell? (ad291.add ((x11_2).toNat * 2)) = some (.int .i64 ((rd_T50 l1_3 x11_2).f0)) ∧ w'.cell? ⟨(ad291.add ((x11_2).toNat * 2)).block, (ad291.add ((x11_2).toNat * 2)).off + 1, none⟩ = some (.int .i64 ((rd_T50 l1_3 x11_2).f1))) (ds := []) #[false, false, false, false, false, false, false, false, false, false, false] (by kernel_rfl) rfl rfl ⟨(blk_cell BK284.out 0).trans rfl, (blk_cell BK284.out 1).trans rfl, (blk_cell BK284.out 2).trans rfl, (blk_cell BK284.out 3).trans rfl, (blk_cell BK283.out 0).trans rfl, (blk_cell BK283.out 1).trans rfl, (blk_cell BK283.out 2).trans rfl, (blk_cell BK283.out 3).trans rfl, hx291_0, hx291_1⟩ (fun hHeld => ?_); refine with_tabW sandglassref13_Ask.tab8 sandglassref13_Ask.bits8 (fun HT_ HW_ => ?_)
         generalize wr.drew = w79 at HO_285002 HO_285003 HO_291003 BK283 BK284 BK285 BK286 BK290 HB hx291_0 hx291_1 hHeld ⊢
         refine pureA 0 44 HT_ ?_
         refine pureA 2 46 HT_ ?_
         refine pureA 6 50 HT_ ?_
         refine pureA 7 51 HT_ ?_
         refine takeA 1 45 HT_ HW_ hHeld ?_
         refine pureA 3 47 HT_ ?_
         refine pureA 4 48 HT_ ?_
         refine takeA 5 49 HT_ HW_ hHeld ?_
         refine takeA 8 52 HT_ HW_ hHeld ?_
         refine pureA 9 53 HT_ ?_
         refine pureA 10 54 HT_ ?_
         refine done_ (done_of HT_.out (by kernel_rfl)) ?_
         try go_wp2
         go_roundg k2
         case measure => have := HJ4.out; have := HK2.out; omega
         case rel => exact ⟨(wrap64 (x11_2 + 1)), (x291003_2), (u291003), (by first | (with_reducible rfl) | rfl | (simp; done) | (simp [*]; done)), (by first | exact H' | (rw [hji49]; exact H')), ⟨by have := HJ4.out; have := HK2.out; omega⟩, ⟨by (with_reducible repeat (first | apply Kd.V_alloc | apply Kd.V_drewN | apply Kd.V_drew)); exact HO_285002.out⟩, ⟨by (with_reducible repeat (first | apply Kd.V_alloc | apply Kd.V_drewN | apply Kd.V_drew)); exact HO_285003.out⟩, ⟨by (with_reducible repeat (first | apply Kd.R_alloc | apply Kd.R_drewN | apply Kd.R_drew)); exact HO_291003.out⟩, ⟨bo BK283⟩, ⟨bo BK284⟩, ⟨bo BK285⟩, ⟨bo BK286⟩, ⟨bo BK290⟩, ⟨bl HB⟩⟩
       ·rw [if_neg c61] at H
        exact absurd H (by simp)
      ·rw [if_neg c60] at H
       have c60b0 : decide (x11_2 < (l1_3.length : Int)) = false := decide_eq_false c60
       clear c60
       replace H := Option.bind_eq_some_iff.mp H
       obtain ⟨t296, A800, H⟩ := H
       have A80 := Aside0.mk A800
       clear A800
       have HC81 := Aside0.mk H
       clear H
       have hnb82 := NB284_283.out
       have hnc82 := NB283_284.out
       have hnb83 := NB284_285.out
       have hnc83 := NB285_284.out
       have hnb84 := NB284_286.out
       have hnc84 := NB286_284.out
       have hnb85 := NB284_290.out
       have hnc85 := NB290_284.out
       obtain ⟨hcz86_0, hcz86_1, hcz86_2, hcz86_3⟩ := ce4 BK284
       obtain ⟨hfz86_0, hfz86_1, hfz86_2, hfz86_3⟩ := fr4 BK284
       have hnb87 := NB283_285.out
       have hnc87 := NB285_283.out
       have hnb88 := NB283_286.out
       have hnc88 := NB286_283.out
       have hnb89 := NB283_290.out
       have hnc89 := NB290_283.out
       obtain ⟨hcz90_0, hcz90_1, hcz90_2, hcz90_3⟩ := ce4 BK283
       obtain ⟨hfz90_0, hfz90_1, hfz90_2, hfz90_3⟩ := fr4 BK283
       have hnb91 := NB290_285.out
       have hnc91 := NB285_290.out
       have hnb92 := NB290_286.out
       have hnc92 := NB286_290.out
       obtain ⟨hcz93_0, hcz93_1, hcz93_2, hcz93_3⟩ := ce4 BK290
       obtain ⟨hfz93_0, hfz93_1, hfz93_2, hfz93_3⟩ := fr4 BK290
       obtain ⟨Ao94, co94, eo94⟩ := Kd.R_slice HO_291003.out
       subst eo94
       go_upto_if 78 with (first | ((with_reducible refine gate_callee (f := 28) rfl ?_); refine goesL_ (some 69) rfl rfl Try.func28 (by kernel_rfl) rfl #[.agg #[.int .i64 a0_0, .int .i64 a0_1, .int .i64 a0_2, .int .i64 a0_3], .slice Ao94 x291003_2.length co94, .int .i64 ji49] rfl (by (try simp only [List.map_toArray, List.map_cons, List.map_nil]); first | done | (simp only [hji49]; rfl) | rfl | (simp only [List.length_drop, List.length_take]; rfl)) ?_; (with_reducible refine (sandglassref13_counts.calls k2 a0_0 a0_1 a0_2 a0_3 _ _ x291003_2 ji49 t296 _ ?side1 ?side2 A80.out).mono ?_); (case side1 => repeat (first | exact (Kd.R_reads' HO_291003.out).2.2 | (with_reducible refine Kd.C_alloc ?_ _) | (with_reducible refine Kd.C_drewN ?_ _) | (with_reducible refine Kd.C_drew ?_))); (case side2 => exact (Kd.R_reads' HO_291003.out).2.1); rintro e w95 ⟨rfl, hb⟩; refine ⟨_, rfl, ?_⟩; replace HO_285002 := vb HO_285002 hb; replace HO_285003 := vb HO_285003 hb; replace HO_291003 := Aside0.mk (Kd.R_below (by (with_reducible repeat (first | apply Kd.R_alloc | apply Kd.R_drewN | apply Kd.R_drew)); exact HO_291003.out) hb); replace BK283 := Aside0.mk (blk_below (bo BK283) hb); replace BK284 := Aside0.mk (blk_below (bo BK284) hb); replace BK285 := Aside0.mk (blk_below (bo BK285) hb); replace BK286 := Aside0.mk (blk_below (bo BK286) hb); replace BK290 := Aside0.mk (blk_below (bo BK290) hb); replace HB := Aside0.mk (below_step (bl HB) hb); (try clear hb); (try clear hb2); (try clear hk); (try clear hi); obtain ⟨hcz96_0, hcz96_1, hcz96_2, hcz96_3⟩ := ce4 BK283; obtain ⟨hfz96_0, hfz96_1, hfz96_2, hfz96_3⟩ := fr4 BK283) | ((with_reducible refine gate_dst (N := 13) rfl ?_); refine box_event ?hg (N := 13) ?hd (cs := #[.bool false, .int .i64 0, .int .i64 0, .int .i64 0]) (t := 32) ?hr ?_; (case hd => rfl); (case hg => rfl); (case hr => first | (go_simp; done) | (go_simp; rfl)); intro gb297 hg w97 hbox hb; have BK297 := Aside0.mk (hbox); have GW297 := Aside0.mk ((by rw [hg]; exact (below_size (bl HB)) : w.heap.size ≤ gb297)); have GE297 := Aside0.mk ((by rw [hg]; exact (below_size (bl HB)) : w.heap.size ≤ gb297)); have NB283_297 := nb BK283 hg; have NB297_283 := bn BK283 hg; have NB284_297 := nb BK284 hg; have NB297_284 := bn BK284 hg; have NB285_297 := nb BK285 hg; have NB297_285 := bn BK285 hg; have NB286_297 := nb BK286 hg; have NB297_286 := bn BK286 hg; have NB290_297 := nb BK290 hg; have NB297_290 := bn BK290 hg; replace HO_285002 := ve HO_285002 hg hb; replace HO_285003 := ve HO_285003 hg hb; replace HO_291003 := Aside0.mk (Kd.R_below (by (with_reducible repeat (first | apply Kd.R_alloc | apply Kd.R_drewN | apply Kd.R_drew)); exact HO_291003.out) hb); replace BK283 := Aside0.mk (blk_below (bo BK283) hb); replace BK284 := Aside0.mk (blk_below (bo BK284) hb); replace BK285 := Aside0.mk (blk_below (bo BK285) hb); replace BK286 := Aside0.mk (blk_below (bo BK286) hb); replace BK290 := Aside0.mk (blk_below (bo BK290) hb); replace HB := Aside0.mk (below_step (bl HB) hb); clear hb hbox hg; have hnb98 := NB297_283.out; have hnc98 := NB283_297.out; have hnb99 := NB297_284.out; have hnc99 := NB284_297.out; have hnb100 := NB297_285.out; have hnc100 := NB285_297.out; have hnb101 := NB297_286.out; have hnc101 := NB286_297.out; have hnb102 := NB297_290.out; have hnc102 := NB290_297.out; obtain ⟨hcz103_0, hcz103_1, hcz103_2, hcz103_3⟩ := ce4 BK297; obtain ⟨hfz103_0, hfz103_1, hfz103_2, hfz103_3⟩ := fr4 BK297))
       (try simp only [Act.put, List.setIfInBounds_toArray, List.set_cons_zero, List.set_cons_succ])
       go_cut [12] (fun v12 wc => ∃ (kq : Nat) (x12_80 : Int) (x285003_80 : List (S50)) (x291003_80 : List (S50)) (x298002_80 : Int) (u285003 : Value) (u291003 : Value), v12 = .int .i64 x12_80 ∧ Aside0 (sandglassref13_Ask.j3 kq ji49 x12_80 a0_0 a0_1 a0_2 a0_3 ji49 0 x291003_80 (decide ((wrap64 (t296 + a3)) ≤ a0_1)) 0 x298002_80 0 = some (r1, r2, r3, r4, r5, r6, r7, r8)) ∧ Aside0 (kq ≤ k2) ∧ Aside0 (Kd.V (Kd.int .i64) 3 wc w.heap.size (fun k_ => ((P1_2_ k_ ∨ P1_3_ k_) ∨ w.heap.size ≤ k_) ∧ some k_ ≠ (u291003 : Value).ownBlock ∧ k_ ≠ gb283 ∧ k_ ≠ gb284 ∧ k_ ≠ gb285 ∧ k_ ≠ gb286 ∧ k_ ≠ gb290 ∧ k_ ≠ gb297) (.slice A1_2 l1_2.length c1_2) l1_2) ∧ Aside0 (Kd.V k50 50 wc w.heap.size (fun k_ => ((P1_2_ k_ ∨ P1_3_ k_) ∨ w.heap.size ≤ k_) ∧ some k_ ≠ (u291003 : Value).ownBlock ∧ k_ ≠ gb283 ∧ k_ ≠ gb284 ∧ k_ ≠ gb285 ∧ k_ ≠ gb286 ∧ k_ ≠ gb290 ∧ k_ ≠ gb297) u285003 x285003_80) ∧ Aside0 (Kd.R k50 50 wc w.heap.size (fun k_ => (w.heap.size ≤ k_)) u291003 x291003_80) ∧ Aside0 (wc.heap[gb283]? = some (.cells #[.int .i64 a0_0, .int .i64 a0_1, .int .i64 a0_2, .int .i64 a0_3] 23 (0, 0))) ∧ Aside0 (wc.heap[gb284]? = some (.cells #[.int .i64 a1_0, .int .i64 a1_1, (.slice A1_2 l1_2.length c1_2), u285003] 27 (0, 0))) ∧ Aside0 (wc.heap[gb285]? = some (.cells #[.int .i64 0, .int .i64 0, (.slice none 0 0), (.slice none 0 0)] 27 (0, 0))) ∧ Aside0 (wc.heap[gb286]? = some (.cells #[.bool false, .int .i64 0, .int .i64 0, .int .i64 0] 32 (0, 0))) ∧ Aside0 (wc.heap[gb290]? = some (.cells #[.int .i64 ji49, .int .i64 0, (.slice none 0 0), u291003] 27 (0, 0))) ∧ Aside0 (wc.heap[gb297]? = some (.cells #[.bool (decide ((wrap64 (t296 + a3)) ≤ a0_1)), .int .i64 0, .int .i64 x298002_80, .int .i64 0] 32 (0, 0))) ∧ Aside0 (Below w.heap.size w wc))
       case first =>
        have H := HC81.out
        clear HC81
        by_cases c104 : (wrap64 (t296 + a3)) ≤ a0_1
        ·rw [if_pos c104] at H
         have c104b0 : decide ((wrap64 (t296 + a3)) ≤ a0_1) = true := decide_eq_true c104
         clear c104
         (first | rw [c104b0] | (simp only [i64_w, i32_w]; rw [c104b0]) | skip)
         have HC105 := Aside0.mk H
         clear H
         have hnb106 := NB290_283.out
         have hnc106 := NB283_290.out
         have hnb107 := NB290_284.out
         have hnc107 := NB284_290.out
         have hnb108 := NB290_285.out
         have hnc108 := NB285_290.out
         have hnb109 := NB290_286.out
         have hnc109 := NB286_290.out
         have hnb110 := NB290_297.out
         have hnc110 := NB297_290.out
         obtain ⟨hcz111_0, hcz111_1, hcz111_2, hcz111_3⟩ := ce4 BK290
         obtain ⟨hfz111_0, hfz111_1, hfz111_2, hfz111_3⟩ := fr4 BK290
         go_upto_region 15 with (fail)
         go_cut [97] (fun v97 wc => ∃ (kq : Nat) (x97_104 : Bool), v97 = .bool x97_104 ∧ Aside0 (sandglassref13_Ask.j2 kq ji49 a3 (wrap64 (t296 + a3)) (wrap64 ((x291003_2.length : Int) - 1)) x97_104 a0_0 a0_1 a0_2 a0_3 ji49 0 x291003_2 (decide ((wrap64 (t296 + a3)) ≤ a0_1)) 0 0 0 = some (r1, r2, r3, r4, r5, r6, r7, r8)) ∧ Aside0 (kq ≤ k2) ∧ Aside0 (Kd.V (Kd.int .i64) 3 wc w.heap.size (fun k_ => ((P1_2_ k_ ∨ P1_3_ k_) ∨ w.heap.size ≤ k_) ∧ some k_ ≠ ((.slice Ao94 x291003_2.length co94) : Value).ownBlock ∧ k_ ≠ gb283 ∧ k_ ≠ gb284 ∧ k_ ≠ gb285 ∧ k_ ≠ gb286 ∧ k_ ≠ gb290 ∧ k_ ≠ gb297) (.slice A1_2 l1_2.length c1_2) l1_2) ∧ Aside0 (Kd.V k50 50 wc w.heap.size (fun k_ => ((P1_2_ k_ ∨ P1_3_ k_) ∨ w.heap.size ≤ k_) ∧ some k_ ≠ ((.slice Ao94 x291003_2.length co94) : Value).ownBlock ∧ k_ ≠ gb283 ∧ k_ ≠ gb284 ∧ k_ ≠ gb285 ∧ k_ ≠ gb286 ∧ k_ ≠ gb290 ∧ k_ ≠ gb297) (.slice A1_3 l1_3.length c1_3) l1_3) ∧ Aside0 (Kd.R k50 50 wc w.heap.size (fun k_ => (w.heap.size ≤ k_)) (.slice Ao94 x291003_2.length co94) x291003_2) ∧ Aside0 (wc.heap[gb283]? = some (.cells #[.int .i64 a0_0, .int .i64 a0_1, .int .i64 a0_2, .int .i64 a0_3] 23 (0, 0))) ∧ Aside0 (wc.heap[gb284]? = some (.cells #[.int .i64 a1_0, .int .i64 a1_1, (.slice A1_2 l1_2.length c1_2), (.slice A1_3 l1_3.length c1_3)] 27 (0, 0))) ∧ Aside0 (wc.heap[gb285]? = some (.cells #[.int .i64 0, .int .i64 0, (.slice none 0 0), (.slice none 0 0)] 27 (0, 0))) ∧ Aside0 (wc.heap[gb286]? = some (.cells #[.bool false, .int .i64 0, .int .i64 0, .int .i64 0] 32 (0, 0))) ∧ Aside0 (wc.heap[gb290]? = some (.cells #[.int .i64 ji49, .int .i64 0, (.slice none 0 0), (.slice Ao94 x291003_2.length co94)] 27 (0, 0))) ∧ Aside0 (wc.heap[gb297]? = some (.cells #[.bool true, .int .i64 0, .int .i64 0, .int .i64 0] 32 (0, 0))) ∧ Aside0 (Below w.heap.size w wc))
         case first =>
          have H := HC105.out
          clear HC105
          by_cases c112 : (wrap64 ((x291003_2.length : Int) - 1)) ≥ 0
          ·rw [if_pos c112] at H
           have c112b0 : decide (0 ≤ (wrap64 ((x291003_2.length : Int) - 1))) = true := decide_eq_true c112
           clear c112
           (first | rw [c112b0] | (simp only [i64_w, i32_w]; rw [c112b0]) | skip)
           obtain ⟨ji113, hji113⟩ : ∃ j_ : Int, (wrap64 ((x291003_2.length : Int) - 1)) = j_ := ⟨_, rfl⟩
           replace H : (if 0 ≤ (ji113) then (if (ji113) < (x291003_2.length : Int) then (sandglassref13_Ask.j2 k2 ji49 a3 (wrap64 (t296 + a3)) ji113 (((rd_T50 x291003_2 (ji113)).f0) == ji49) a0_0 a0_1 a0_2 a0_3 ji49 0 x291003_2 (decide ((wrap64 (t296 + a3)) ≤ a0_1)) 0 0 0) else (none)) else (none)) = some (r1, r2, r3, r4, r5, r6, r7, r8) := by first | (rw [hji113] at H; exact H) | (simp only [hji113] at H ⊢; exact H)
           (try rw [hji113] at c112b0)
           have hji113w : (IntKind.i64.wrap ((x291003_2.length : Int) - 1)) = ji113 := (i64_w _).trans hji113
           by_cases c114 : 0 ≤ (ji113)
           ·rw [if_pos c114] at H
            have c114b0 : decide (0 ≤ (ji113)) = true := decide_eq_true c114
            clear c114
            by_cases c115 : (ji113) < (x291003_2.length : Int)
            ·rw [if_pos c115] at H
             have c115b0 : decide ((ji113) < (x291003_2.length : Int)) = true := decide_eq_true c115
             clear c115
             have H' := Aside0.mk H
             clear H
             have hnb116 := NB290_283.out
             have hnc116 := NB283_290.out
             have hnb117 := NB290_284.out
             have hnc117 := NB284_290.out
             have hnb118 := NB290_285.out
             have hnc118 := NB285_290.out
             have hnb119 := NB290_286.out
             have hnc119 := NB286_290.out
             have hnb120 := NB290_297.out
             have hnc120 := NB297_290.out
             obtain ⟨hcz121_0, hcz121_1, hcz121_2, hcz121_3⟩ := ce4 BK290
             obtain ⟨hfz121_0, hfz121_1, hfz121_2, hfz121_3⟩ := fr4 BK290
             have p298 : 0 ≤ ((ji113) : Int) := of_decide_eq_true (by first | (with_reducible assumption) | assumption)
             have q298 : (ji113) < (x291003_2.length : Int) := of_decide_eq_true (by first | (with_reducible assumption) | assumption)
             obtain ⟨ad298, e298, hx298_0, hx298_1⟩ := at_T50 (Kd.R_reads' HO_291003.out).2.2 (ji113) p298 q298
             cases e298
             have hn298_0 : ad298.block ≠ gb297 := Kd.own_blk (Kd.R_ne HO_291003.out BK297.out (by decide))
             have hn298_1 : ad298.block ≠ gb297 := Kd.own_blk (Kd.R_ne HO_291003.out BK297.out (by decide))
             have hn298_2 : ad298.block ≠ gb297 := Kd.own_blk (Kd.R_ne HO_291003.out BK297.out (by decide))
             have hn298_3 : ad298.block ≠ gb297 := Kd.own_blk (Kd.R_ne HO_291003.out BK297.out (by decide))
             replace hx298_0 := (cell_far (p := ⟨gb297, 0, none⟩) (by first | (rw [add_block]; exact hn298_0) | (show (Addr.add _ _).block ≠ _; rw [add_block]; exact hn298_0) | exact hn298_0) (.bool true)).trans hx298_0
             replace hx298_1 := (cell_far (p := ⟨gb297, 0, none⟩) (by first | (rw [add_block]; exact hn298_0) | (show (Addr.add _ _).block ≠ _; rw [add_block]; exact hn298_0) | exact hn298_0) (.bool true)).trans hx298_1
             replace hx298_0 := (cell_far (p := ⟨gb297, 1, none⟩) (by first | (rw [add_block]; exact hn298_1) | (show (Addr.add _ _).block ≠ _; rw [add_block]; exact hn298_1) | exact hn298_1) (.int .i64 0)).trans hx298_0
             replace hx298_1 := (cell_far (p := ⟨gb297, 1, none⟩) (by first | (rw [add_block]; exact hn298_1) | (show (Addr.add _ _).block ≠ _; rw [add_block]; exact hn298_1) | exact hn298_1) (.int .i64 0)).trans hx298_1
             replace hx298_0 := (cell_far (p := ⟨gb297, 2, none⟩) (by first | (rw [add_block]; exact hn298_2) | (show (Addr.add _ _).block ≠ _; rw [add_block]; exact hn298_2) | exact hn298_2) (.int .i64 0)).trans hx298_0
             replace hx298_1 := (cell_far (p := ⟨gb297, 2, none⟩) (by first | (rw [add_block]; exact hn298_2) | (show (Addr.add _ _).block ≠ _; rw [add_block]; exact hn298_2) | exact hn298_2) (.int .i64 0)).trans hx298_1
             replace hx298_0 := (cell_far (p := ⟨gb297, 3, none⟩) (by first | (rw [add_block]; exact hn298_3) | (show (Addr.add _ _).block ≠ _; rw [add_block]; exact hn298_3) | exact hn298_3) (.int .i64 0)).trans hx298_0
             replace hx298_1 := (cell_far (p := ⟨gb297, 3, none⟩) (by first | (rw [add_block]; exact hn298_3) | (show (Addr.add _ _).block ≠ _; rw [add_block]; exact hn298_3) | exact hn298_3) (.int .i64 0)).trans hx298_1
             clear hn298_0
             clear hn298_1
             clear hn298_2
             clear hn298_3
             replace p298 := eq_true p298
             replace q298 := eq_true q298
             go_wp2
             go_meet
             case rel => exact ⟨_, ((((rd_T50 x291003_2 (ji113)).f0) == ji49)), (by first | (with_reducible rfl) | (simp only [← hji49, ← hji113]; with_reducible rfl) | (simp only [← hji49, ← hji113]; done) | rfl | (simp; done) | (simp only [← hji49, ← hji113] <;> (first | rfl | simp)) | (simp [*]; done)), (by first | exact H' | (rw [hji113]; exact H') | (rw [hji49]; exact H')), ⟨by have := HJ4.out; have := HK2.out; first | omega | exact Nat.le_refl _⟩, ⟨by (with_reducible repeat (first | apply Kd.V_alloc | apply Kd.V_drewN | apply Kd.V_drew)); exact Kd.V_mono (Kd.V_far (p := ⟨gb297, 3, none⟩) (Kd.V_far (p := ⟨gb297, 2, none⟩) (Kd.V_far (p := ⟨gb297, 1, none⟩) (Kd.V_far (p := ⟨gb297, 0, none⟩) (Kd.V_mono HO_285002.out (fun k_ hk => (⟨hk, hk.2⟩ : _ ∧ k_ ≠ gb297))) (fun _ hk => hk.2) (.bool true)) (fun _ hk => hk.2) (.int .i64 0)) (fun _ hk => hk.2) (.int .i64 0)) (fun _ hk => hk.2) (.int .i64 0)) (fun _ hk => ⟨hk.1.1.1, ⟨hk.1.1.2.1, ⟨hk.1.1.2.2.1, ⟨hk.1.1.2.2.2.1, ⟨hk.1.1.2.2.2.2.1, ⟨hk.1.1.2.2.2.2.2.1, ⟨hk.1.1.2.2.2.2.2.2, hk.1.2⟩⟩⟩⟩⟩⟩⟩)⟩, ⟨by (with_reducible repeat (first | apply Kd.V_alloc | apply Kd.V_drewN | apply Kd.V_drew)); exact Kd.V_mono (Kd.V_far (p := ⟨gb297, 3, none⟩) (Kd.V_far (p := ⟨gb297, 2, none⟩) (Kd.V_far (p := ⟨gb297, 1, none⟩) (Kd.V_far (p := ⟨gb297, 0, none⟩) (Kd.V_mono HO_285003.out (fun k_ hk => (⟨hk, hk.2⟩ : _ ∧ k_ ≠ gb297))) (fun _ hk => hk.2) (.bool true)) (fun _ hk => hk.2) (.int .i64 0)) (fun _ hk => hk.2) (.int .i64 0)) (fun _ hk => hk.2) (.int .i64 0)) (fun _ hk => ⟨hk.1.1.1, ⟨hk.1.1.2.1, ⟨hk.1.1.2.2.1, ⟨hk.1.1.2.2.2.1, ⟨hk.1.1.2.2.2.2.1, ⟨hk.1.1.2.2.2.2.2.1, ⟨hk.1.1.2.2.2.2.2.2, hk.1.2⟩⟩⟩⟩⟩⟩⟩)⟩, ⟨by (with_reducible repeat (first | apply Kd.R_alloc | apply Kd.R_drewN | apply Kd.R_drew)); exact Kd.R_mono (Kd.R_far (p := ⟨gb297, 3, none⟩) (Kd.R_far (p := ⟨gb297, 2, none⟩) (Kd.R_far (p := ⟨gb297, 1, none⟩) (Kd.R_far (p := ⟨gb297, 0, none⟩) (Kd.R_types HO_291003.out BK297.out (by decide)) (fun _ hk => hk.2) (.bool true)) (fun _ hk => hk.2) (.int .i64 0)) (fun _ hk => hk.2) (.int .i64 0)) (fun _ hk => hk.2) (.int .i64 0)) (fun _ hk => hk.1)⟩, ⟨by (with_reducible repeat (first | refine blk_drewN ?_ _ | refine blk_drew ?_ | refine blk_alloc ?_ _)); refine blk_far ?_ NB283_297.out _; (with_reducible repeat (first | refine blk_drewN ?_ _ | refine blk_drew ?_ | refine blk_alloc ?_ _)); refine blk_far ?_ NB283_297.out _; (with_reducible repeat (first | refine blk_drewN ?_ _ | refine blk_drew ?_ | refine blk_alloc ?_ _)); refine blk_far ?_ NB283_297.out _; (with_reducible repeat (first | refine blk_drewN ?_ _ | refine blk_drew ?_ | refine blk_alloc ?_ _)); refine blk_far ?_ NB283_297.out _; (with_reducible repeat (first | refine blk_drewN ?_ _ | refine blk_drew ?_ | refine blk_alloc ?_ _)); first | exact BK283.out | (rw [c115b0]; exact BK283.out) | (rw [c114b0]; exact BK283.out) | (rw [c112b0]; exact BK283.out) | (rw [c104b0]; exact BK283.out) | (rw [c60b0]; exact BK283.out)⟩, ⟨by (with_reducible repeat (first | refine blk_drewN ?_ _ | refine blk_drew ?_ | refine blk_alloc ?_ _)); refine blk_far ?_ NB284_297.out _; (with_reducible repeat (first | refine blk_drewN ?_ _ | refine blk_drew ?_ | refine blk_alloc ?_ _)); refine blk_far ?_ NB284_297.out _; (with_reducible repeat (first | refine blk_drewN ?_ _ | refine blk_drew ?_ | refine blk_alloc ?_ _)); refine blk_far ?_ NB284_297.out _; (with_reducible repeat (first | refine blk_drewN ?_ _ | refine blk_drew ?_ | refine blk_alloc ?_ _)); refine blk_far ?_ NB284_297.out _; (with_reducible repeat (first | refine blk_drewN ?_ _ | refine blk_drew ?_ | refine blk_alloc ?_ _)); first | exact BK284.out | (rw [c115b0]; exact BK284.out) | (rw [c114b0]; exact BK284.out) | (rw [c112b0]; exact BK284.out) | (rw [c104b0]; exact BK284.out) | (rw [c60b0]; exact BK284.out)⟩, ⟨by (with_reducible repeat (first | refine blk_drewN ?_ _ | refine blk_drew ?_ | refine blk_alloc ?_ _)); refine blk_far ?_ NB285_297.out _; (with_reducible repeat (first | refine blk_drewN ?_ _ | refine blk_drew ?_ | refine blk_alloc ?_ _)); refine blk_far ?_ NB285_297.out _; (with_reducible repeat (first | refine blk_drewN ?_ _ | refine blk_drew ?_ | refine blk_alloc ?_ _)); refine blk_far ?_ NB285_297.out _; (with_reducible repeat (first | refine blk_drewN ?_ _ | refine blk_drew ?_ | refine blk_alloc ?_ _)); refine blk_far ?_ NB285_297.out _; (with_reducible repeat (first | refine blk_drewN ?_ _ | refine blk_drew ?_ | refine blk_alloc ?_ _)); first | exact BK285.out | (rw [c115b0]; exact BK285.out) | (rw [c114b0]; exact BK285.out) | (rw [c112b0]; exact BK285.out) | (rw [c104b0]; exact BK285.out) | (rw [c60b0]; exact BK285.out)⟩, ⟨by (with_reducible repeat (first | refine blk_drewN ?_ _ | refine blk_drew ?_ | refine blk_alloc ?_ _)); refine blk_far ?_ NB286_297.out _; (with_reducible repeat (first | refine blk_drewN ?_ _ | refine blk_drew ?_ | refine blk_alloc ?_ _)); refine blk_far ?_ NB286_297.out _; (with_reducible repeat (first | refine blk_drewN ?_ _ | refine blk_drew ?_ | refine blk_alloc ?_ _)); refine blk_far ?_ NB286_297.out _; (with_reducible repeat (first | refine blk_drewN ?_ _ | refine blk_drew ?_ | refine blk_alloc ?_ _)); refine blk_far ?_ NB286_297.out _; (with_reducible repeat (first | refine blk_drewN ?_ _ | refine blk_drew ?_ | refine blk_alloc ?_ _)); first | exact BK286.out | (rw [c115b0]; exact BK286.out) | (rw [c114b0]; exact BK286.out) | (rw [c112b0]; exact BK286.out) | (rw [c104b0]; exact BK286.out) | (rw [c60b0]; exact BK286.out)⟩, ⟨by (with_reducible repeat (first | refine blk_drewN ?_ _ | refine blk_drew ?_ | refine blk_alloc ?_ _)); refine blk_far ?_ NB290_297.out _; (with_reducible repeat (first | refine blk_drewN ?_ _ | refine blk_drew ?_ | refine blk_alloc ?_ _)); refine blk_far ?_ NB290_297.out _; (with_reducible repeat (first | refine blk_drewN ?_ _ | refine blk_drew ?_ | refine blk_alloc ?_ _)); refine blk_far ?_ NB290_297.out _; (with_reducible repeat (first | refine blk_drewN ?_ _ | refine blk_drew ?_ | refine blk_alloc ?_ _)); refine blk_far ?_ NB290_297.out _; (with_reducible repeat (first | refine blk_drewN ?_ _ | refine blk_drew ?_ | refine blk_alloc ?_ _)); first | exact BK290.out | (rw [c115b0]; exact BK290.out) | (rw [c114b0]; exact BK290.out) | (rw [c112b0]; exact BK290.out) | (rw [c104b0]; exact BK290.out) | (rw [c60b0]; exact BK290.out)⟩, ⟨by (with_reducible repeat (first | refine blk_drewN ?_ _ | refine blk_drew ?_ | refine blk_alloc ?_ _)); refine blk_put (cs := #[.bool true, .int .i64 0, .int .i64 0, .int .i64 0]) ?_ 3 _ (by first | rfl | (rw [c115b0]; rfl) | (rw [c114b0]; rfl) | (rw [c112b0]; rfl) | (rw [c104b0]; rfl) | (rw [c60b0]; rfl)); (with_reducible repeat (first | refine blk_drewN ?_ _ | refine blk_drew ?_ | refine blk_alloc ?_ _)); refine blk_put (cs := #[.bool true, .int .i64 0, .int .i64 0, .int .i64 0]) ?_ 2 _ (by first | rfl | (rw [c115b0]; rfl) | (rw [c114b0]; rfl) | (rw [c112b0]; rfl) | (rw [c104b0]; rfl) | (rw [c60b0]; rfl)); (with_reducible repeat (first | refine blk_drewN ?_ _ | refine blk_drew ?_ | refine blk_alloc ?_ _)); refine blk_put (cs := #[.bool true, .int .i64 0, .int .i64 0, .int .i64 0]) ?_ 1 _ (by first | rfl | (rw [c115b0]; rfl) | (rw [c114b0]; rfl) | (rw [c112b0]; rfl) | (rw [c104b0]; rfl) | (rw [c60b0]; rfl)); (with_reducible repeat (first | refine blk_drewN ?_ _ | refine blk_drew ?_ | refine blk_alloc ?_ _)); refine blk_put (cs := #[.bool false, .int .i64 0, .int .i64 0, .int .i64 0]) ?_ 0 _ (by first | rfl | (rw [c115b0]; rfl) | (rw [c114b0]; rfl) | (rw [c112b0]; rfl) | (rw [c104b0]; rfl) | (rw [c60b0]; rfl)); (with_reducible repeat (first | refine blk_drewN ?_ _ | refine blk_drew ?_ | refine blk_alloc ?_ _)); first | exact BK297.out | (rw [c115b0]; exact BK297.out) | (rw [c114b0]; exact BK297.out) | (rw [c112b0]; exact BK297.out) | (rw [c104b0]; exact BK297.out) | (rw [c60b0]; exact BK297.out)⟩, ⟨bl HB⟩⟩
            ·rw [if_neg c115] at H
             exact absurd H (by simp)
           ·rw [if_neg c114] at H
            exact absurd H (by simp)
          ·rw [if_neg c112] at H
           have c112b0 : decide (0 ≤ (wrap64 ((x291003_2.length : Int) - 1))) = false := decide_eq_false c112
           clear c112
           (first | rw [c112b0] | (simp only [i64_w, i32_w]; rw [c112b0]) | skip)
           have H' := Aside0.mk H
           clear H
           go_wp2
           go_meet
           case rel => exact ⟨_, (false), (by first | (with_reducible rfl) | rfl | (simp; done) | (simp [*]; done)), (by first | exact H' | (rw [hji113]; exact H') | (rw [hji49]; exact H')), ⟨by have := HJ4.out; have := HK2.out; first | omega | exact Nat.le_refl _⟩, ⟨by (with_reducible repeat (first | apply Kd.V_alloc | apply Kd.V_drewN | apply Kd.V_drew)); exact Kd.V_mono (Kd.V_far (p := ⟨gb297, 3, none⟩) (Kd.V_far (p := ⟨gb297, 2, none⟩) (Kd.V_far (p := ⟨gb297, 1, none⟩) (Kd.V_far (p := ⟨gb297, 0, none⟩) (Kd.V_mono HO_285002.out (fun k_ hk => (⟨hk, hk.2⟩ : _ ∧ k_ ≠ gb297))) (fun _ hk => hk.2) (.bool true)) (fun _ hk => hk.2) (.int .i64 0)) (fun _ hk => hk.2) (.int .i64 0)) (fun _ hk => hk.2) (.int .i64 0)) (fun _ hk => ⟨hk.1.1.1, ⟨hk.1.1.2.1, ⟨hk.1.1.2.2.1, ⟨hk.1.1.2.2.2.1, ⟨hk.1.1.2.2.2.2.1, ⟨hk.1.1.2.2.2.2.2.1, ⟨hk.1.1.2.2.2.2.2.2, hk.1.2⟩⟩⟩⟩⟩⟩⟩)⟩, ⟨by (with_reducible repeat (first | apply Kd.V_alloc | apply Kd.V_drewN | apply Kd.V_drew)); exact Kd.V_mono (Kd.V_far (p := ⟨gb297, 3, none⟩) (Kd.V_far (p := ⟨gb297, 2, none⟩) (Kd.V_far (p := ⟨gb297, 1, none⟩) (Kd.V_far (p := ⟨gb297, 0, none⟩) (Kd.V_mono HO_285003.out (fun k_ hk => (⟨hk, hk.2⟩ : _ ∧ k_ ≠ gb297))) (fun _ hk => hk.2) (.bool true)) (fun _ hk => hk.2) (.int .i64 0)) (fun _ hk => hk.2) (.int .i64 0)) (fun _ hk => hk.2) (.int .i64 0)) (fun _ hk => ⟨hk.1.1.1, ⟨hk.1.1.2.1, ⟨hk.1.1.2.2.1, ⟨hk.1.1.2.2.2.1, ⟨hk.1.1.2.2.2.2.1, ⟨hk.1.1.2.2.2.2.2.1, ⟨hk.1.1.2.2.2.2.2.2, hk.1.2⟩⟩⟩⟩⟩⟩⟩)⟩, ⟨by (with_reducible repeat (first | apply Kd.R_alloc | apply Kd.R_drewN | apply Kd.R_drew)); exact Kd.R_mono (Kd.R_far (p := ⟨gb297, 3, none⟩) (Kd.R_far (p := ⟨gb297, 2, none⟩) (Kd.R_far (p := ⟨gb297, 1, none⟩) (Kd.R_far (p := ⟨gb297, 0, none⟩) (Kd.R_types HO_291003.out BK297.out (by decide)) (fun _ hk => hk.2) (.bool true)) (fun _ hk => hk.2) (.int .i64 0)) (fun _ hk => hk.2) (.int .i64 0)) (fun _ hk => hk.2) (.int .i64 0)) (fun _ hk => hk.1)⟩, ⟨by (with_reducible repeat (first | refine blk_drewN ?_ _ | refine blk_drew ?_ | refine blk_alloc ?_ _)); refine blk_far ?_ NB283_297.out _; (with_reducible repeat (first | refine blk_drewN ?_ _ | refine blk_drew ?_ | refine blk_alloc ?_ _)); refine blk_far ?_ NB283_297.out _; (with_reducible repeat (first | refine blk_drewN ?_ _ | refine blk_drew ?_ | refine blk_alloc ?_ _)); refine blk_far ?_ NB283_297.out _; (with_reducible repeat (first | refine blk_drewN ?_ _ | refine blk_drew ?_ | refine blk_alloc ?_ _)); refine blk_far ?_ NB283_297.out _; (with_reducible repeat (first | refine blk_drewN ?_ _ | refine blk_drew ?_ | refine blk_alloc ?_ _)); first | exact BK283.out | (rw [c112b0]; exact BK283.out) | (rw [c104b0]; exact BK283.out) | (rw [c60b0]; exact BK283.out)⟩, ⟨by (with_reducible repeat (first | refine blk_drewN ?_ _ | refine blk_drew ?_ | refine blk_alloc ?_ _)); refine blk_far ?_ NB284_297.out _; (with_reducible repeat (first | refine blk_drewN ?_ _ | refine blk_drew ?_ | refine blk_alloc ?_ _)); refine blk_far ?_ NB284_297.out _; (with_reducible repeat (first | refine blk_drewN ?_ _ | refine blk_drew ?_ | refine blk_alloc ?_ _)); refine blk_far ?_ NB284_297.out _; (with_reducible repeat (first | refine blk_drewN ?_ _ | refine blk_drew ?_ | refine blk_alloc ?_ _)); refine blk_far ?_ NB284_297.out _; (with_reducible repeat (first | refine blk_drewN ?_ _ | refine blk_drew ?_ | refine blk_alloc ?_ _)); first | exact BK284.out | (rw [c112b0]; exact BK284.out) | (rw [c104b0]; exact BK284.out) | (rw [c60b0]; exact BK284.out)⟩, ⟨by (with_reducible repeat (first | refine blk_drewN ?_ _ | refine blk_drew ?_ | refine blk_alloc ?_ _)); refine blk_far ?_ NB285_297.out _; (with_reducible repeat (first | refine blk_drewN ?_ _ | refine blk_drew ?_ | refine blk_alloc ?_ _)); refine blk_far ?_ NB285_297.out _; (with_reducible repeat (first | refine blk_drewN ?_ _ | refine blk_drew ?_ | refine blk_alloc ?_ _)); refine blk_far ?_ NB285_297.out _; (with_reducible repeat (first | refine blk_drewN ?_ _ | refine blk_drew ?_ | refine blk_alloc ?_ _)); refine blk_far ?_ NB285_297.out _; (with_reducible repeat (first | refine blk_drewN ?_ _ | refine blk_drew ?_ | refine blk_alloc ?_ _)); first | exact BK285.out | (rw [c112b0]; exact BK285.out) | (rw [c104b0]; exact BK285.out) | (rw [c60b0]; exact BK285.out)⟩, ⟨by (with_reducible repeat (first | refine blk_drewN ?_ _ | refine blk_drew ?_ | refine blk_alloc ?_ _)); refine blk_far ?_ NB286_297.out _; (with_reducible repeat (first | refine blk_drewN ?_ _ | refine blk_drew ?_ | refine blk_alloc ?_ _)); refine blk_far ?_ NB286_297.out _; (with_reducible repeat (first | refine blk_drewN ?_ _ | refine blk_drew ?_ | refine blk_alloc ?_ _)); refine blk_far ?_ NB286_297.out _; (with_reducible repeat (first | refine blk_drewN ?_ _ | refine blk_drew ?_ | refine blk_alloc ?_ _)); refine blk_far ?_ NB286_297.out _; (with_reducible repeat (first | refine blk_drewN ?_ _ | refine blk_drew ?_ | refine blk_alloc ?_ _)); first | exact BK286.out | (rw [c112b0]; exact BK286.out) | (rw [c104b0]; exact BK286.out) | (rw [c60b0]; exact BK286.out)⟩, ⟨by (with_reducible repeat (first | refine blk_drewN ?_ _ | refine blk_drew ?_ | refine blk_alloc ?_ _)); refine blk_far ?_ NB290_297.out _; (with_reducible repeat (first | refine blk_drewN ?_ _ | refine blk_drew ?_ | refine blk_alloc ?_ _)); refine blk_far ?_ NB290_297.out _; (with_reducible repeat (first | refine blk_drewN ?_ _ | refine blk_drew ?_ | refine blk_alloc ?_ _)); refine blk_far ?_ NB290_297.out _; (with_reducible repeat (first | refine blk_drewN ?_ _ | refine blk_drew ?_ | refine blk_alloc ?_ _)); refine blk_far ?_ NB290_297.out _; (with_reducible repeat (first | refine blk_drewN ?_ _ | refine blk_drew ?_ | refine blk_alloc ?_ _)); first | exact BK290.out | (rw [c112b0]; exact BK290.out) | (rw [c104b0]; exact BK290.out) | (rw [c60b0]; exact BK290.out)⟩, ⟨by (with_reducible repeat (first | refine blk_drewN ?_ _ | refine blk_drew ?_ | refine blk_alloc ?_ _)); refine blk_put (cs := #[.bool true, .int .i64 0, .int .i64 0, .int .i64 0]) ?_ 3 _ (by first | rfl | (rw [c112b0]; rfl) | (rw [c104b0]; rfl) | (rw [c60b0]; rfl)); (with_reducible repeat (first | refine blk_drewN ?_ _ | refine blk_drew ?_ | refine blk_alloc ?_ _)); refine blk_put (cs := #[.bool true, .int .i64 0, .int .i64 0, .int .i64 0]) ?_ 2 _ (by first | rfl | (rw [c112b0]; rfl) | (rw [c104b0]; rfl) | (rw [c60b0]; rfl)); (with_reducible repeat (first | refine blk_drewN ?_ _ | refine blk_drew ?_ | refine blk_alloc ?_ _)); refine blk_put (cs := #[.bool true, .int .i64 0, .int .i64 0, .int .i64 0]) ?_ 1 _ (by first | rfl | (rw [c112b0]; rfl) | (rw [c104b0]; rfl) | (rw [c60b0]; rfl)); (with_reducible repeat (first | refine blk_drewN ?_ _ | refine blk_drew ?_ | refine blk_alloc ?_ _)); refine blk_put (cs := #[.bool false, .int .i64 0, .int .i64 0, .int .i64 0]) ?_ 0 _ (by first | rfl | (rw [c112b0]; rfl) | (rw [c104b0]; rfl) | (rw [c60b0]; rfl)); (with_reducible repeat (first | refine blk_drewN ?_ _ | refine blk_drew ?_ | refine blk_alloc ?_ _)); first | exact BK297.out | (rw [c112b0]; exact BK297.out) | (rw [c104b0]; exact BK297.out) | (rw [c60b0]; exact BK297.out)⟩, ⟨bl HB⟩⟩
         case rest =>
          clear HC105
          try clear c11; try clear c60; try clear c60b0; try clear c61; try clear c62; try clear c62b0; try clear c63; try clear c104; try clear c104b0; try clear c112; try clear c112b0; try clear c114; try clear c114b0; try clear c115; try clear c115b0; try clear hcz103_0; try clear hcz103_1; try clear hcz103_2; try clear hcz103_3; try clear hcz111_0; try clear hcz111_1; try clear hcz111_2; try clear hcz111_3; try clear hcz121_0; try clear hcz121_1; try clear hcz121_2; try clear hcz121_3; try clear hcz78_0; try clear hcz78_1; try clear hcz78_2; try clear hcz78_3; try clear hcz86_0; try clear hcz86_1; try clear hcz86_2; try clear hcz86_3; try clear hcz90_0; try clear hcz90_1; try clear hcz90_2; try clear hcz90_3; try clear hcz93_0; try clear hcz93_1; try clear hcz93_2; try clear hcz93_3; try clear hcz96_0; try clear hcz96_1; try clear hcz96_2; try clear hcz96_3; try clear hfz103_0; try clear hfz103_1; try clear hfz103_2; try clear hfz103_3; try clear hfz111_0; try clear hfz111_1; try clear hfz111_2; try clear hfz111_3; try clear hfz121_0; try clear hfz121_1; try clear hfz121_2; try clear hfz121_3; try clear hfz78_0; try clear hfz78_1; try clear hfz78_2; try clear hfz78_3; try clear hfz86_0; try clear hfz86_1; try clear hfz86_2; try clear hfz86_3; try clear hfz90_0; try clear hfz90_1; try clear hfz90_2; try clear hfz90_3; try clear hfz93_0; try clear hfz93_1; try clear hfz93_2; try clear hfz93_3; try clear hfz96_0; try clear hfz96_1; try clear hfz96_2; try clear hfz96_3; try clear hx291_0; try clear hx291_1; try clear hx292_0; try clear hx292_1; try clear hx298_0; try clear hx298_1; try clear p291; try clear p292; try clear p298; try clear q291; try clear q292; try clear q298
          obtain ⟨kq, x97_104, rfl, HA, HJ104, HO_285002, HO_285003, HO_291003, BK283, BK284, BK285, BK286, BK290, BK297, HB⟩ := hcut
          cases kq with
          | zero => exact absurd HA.out (by simp [sandglassref13_Ask.j2])
          | succ kj104 =>
           have H := HA.out
           clear HA
           simp only [sandglassref13_Ask.j2] at H
           by_cases c122 : x97_104 = true
           ·subst c122
            rw [if_pos rfl] at H
            obtain ⟨ji123, hji123⟩ : ∃ j_ : Int, (wrap64 ((x291003_2.length : Int) - 1)) = j_ := ⟨_, rfl⟩
            replace H : (if 0 ≤ (ji123) then (if (ji123) < (x291003_2.length : Int) then (sandglassref13_Ask.j3 kj104 ji49 (wrap64 (t296 + a3)) a0_0 a0_1 a0_2 a0_3 ji49 0 (x291003_2.set ((ji123) : Int).toNat (⟨(rd_T50 x291003_2 (ji123)).f0, wrap64 (((rd_T50 x291003_2 (ji123)).f1) + a3)⟩ : S50)) (decide ((wrap64 (t296 + a3)) ≤ a0_1)) 0 0 0) else (none)) else (none)) = some (r1, r2, r3, r4, r5, r6, r7, r8) := by first | (rw [hji123] at H; exact H) | (simp only [hji123] at H ⊢; exact H)
            have hji123w : (IntKind.i64.wrap ((x291003_2.length : Int) - 1)) = ji123 := (i64_w _).trans hji123
            by_cases c124 : 0 ≤ (ji123)
            ·rw [if_pos c124] at H
             have c124b0 : decide (0 ≤ (ji123)) = true := decide_eq_true c124
             clear c124
             by_cases c125 : (ji123) < (x291003_2.length : Int)
             ·rw [if_pos c125] at H
              have c125b0 : decide ((ji123) < (x291003_2.length : Int)) = true := decide_eq_true c125
              clear c125
              obtain ⟨y300, hy300⟩ : ∃ y_ : List (S50), y_ = (x291003_2.set ((ji123) : Int).toNat (⟨(rd_T50 x291003_2 (ji123)).f0, wrap64 (((rd_T50 x291003_2 (ji123)).f1) + a3)⟩ : S50)) := ⟨_, rfl⟩
              replace H : (sandglassref13_Ask.j3 kj104 ji49 (wrap64 (t296 + a3)) a0_0 a0_1 a0_2 a0_3 ji49 0 y300 (decide ((wrap64 (t296 + a3)) ≤ a0_1)) 0 0 0) = some (r1, r2, r3, r4, r5, r6, r7, r8) := by first | (rw [hy300]; with_reducible exact H) | (have H2_ := (Option.bind_some _ _).symm.trans H; rw [hy300]; with_reducible exact H2_) | (have H2_ := (Option.bind_some _ _).symm.trans H; with_reducible exact H2_) | with_reducible exact H | (rw [hy300]; exact H) | exact H
              have Ny300 := Aside0.mk hy300
              clear hy300
              have H' := Aside0.mk H
              clear H
              try go_wp2
              replace HO_285002 := Aside0.mk (Kd.V_drew HO_285002.out)
              replace HO_285003 := Aside0.mk (Kd.V_drew HO_285003.out)
              replace HO_291003 := Aside0.mk (Kd.R_drew HO_291003.out)
              replace BK283 := Aside0.mk (blk_drew BK283.out)
              replace BK284 := Aside0.mk (blk_drew BK284.out)
              replace BK285 := Aside0.mk (blk_drew BK285.out)
              replace BK286 := Aside0.mk (blk_drew BK286.out)
              replace BK290 := Aside0.mk (blk_drew BK290.out)
              replace BK297 := Aside0.mk (blk_drew BK297.out)
              replace HB := Aside0.mk (below_drew1 HB.out)
              have p299 : 0 ≤ ((ji123) : Int) := of_decide_eq_true (by first | (with_reducible assumption) | assumption)
              have q299 : (ji123) < (x291003_2.length : Int) := of_decide_eq_true (by first | (with_reducible assumption) | assumption)
              obtain ⟨ad299, e299, hx299_0, hx299_1⟩ := at_T50 (Kd.R_reads' HO_291003.out).2.2 (ji123) p299 q299
              cases e299
              replace p299 := eq_true p299
              replace q299 := eq_true q299
              have p126 : 0 ≤ ((ji123) : Int) := of_decide_eq_true (by first | (with_reducible assumption) | assumption)
              have q126 : ((ji123) : Int) < ((x291003_2.length : Int) : Int) := of_decide_eq_true (by first | (with_reducible assumption) | assumption)
              obtain ⟨go126, co126, eo126, gb126, gl126, cl126, HG126⟩ := Kd.R_form HO_291003.out (by omega)
              (first | cases eo126 | (injection eo126 with ea_ en_ ec_; (first | subst ea_ | (injection ea_ with ea_; subst ea_)); subst ec_; clear en_))
              have GB126 := Aside0.mk gb126
              have GG126 := Aside0.mk HG126
              clear gb126 gl126 HG126
              (first | simp only [add_plain] at hx299_0 | skip)
              (first | simp only [add_plain] at hx299_1 | skip)
              obtain ⟨ce126, hcl126, hM126, hcc126, hfr126⟩ := Kd.R_elem HO_291003.out z50 ((ji123) : Int) p126 q126
              obtain rfl := k50_openM hM126
              have hx126_0 : World.cell? _ ⟨go126, ((ji123) : Int).toNat * 2, none⟩ = some (.int .i64 ((rd_T50 x291003_2 (ji123)).f0)) := hcc126 0 _ rfl
              have hx126_1 : World.cell? _ ⟨go126, ((ji123) : Int).toNat * 2 + 1, none⟩ = some (.int .i64 ((rd_T50 x291003_2 (ji123)).f1)) := hcc126 1 _ rfl
              have hf126_0 : World.frozen? _ ⟨go126, ((ji123) : Int).toNat * 2, none⟩ = false := hfr126 0
              have hf126_1 : World.frozen? _ ⟨go126, ((ji123) : Int).toNat * 2 + 1, none⟩ = false := hfr126 1
              clear hcl126 hcc126 hfr126 hM126
              replace p126 := eq_true p126
              replace q126 := eq_true q126
              obtain ⟨ce128, hcl128, hM128, hcc128, hfr128⟩ := Kd.R_elem HO_291003.out z50 ((ji123) : Int) (of_decide_eq_true (by first | (with_reducible assumption) | assumption)) (by have h_ : ((ji123) : Int) < ((x291003_2.length : Int) : Int) := of_decide_eq_true (by first | (with_reducible assumption) | assumption); first | exact h_ | (have e_ := (Kd.R_reads' HO_291003.out).1; omega) | simpa using h_)
              obtain rfl := k50_openM hM128
              have HP128 := (Kd.R_seg HO_291003.out ((ji123) : Int) (of_decide_eq_true (by first | (with_reducible assumption) | assumption)) (by have h_ : ((ji123) : Int) < ((x291003_2.length : Int) : Int) := of_decide_eq_true (by first | (with_reducible assumption) | assumption); first | exact h_ | (have e_ := (Kd.R_reads' HO_291003.out).1; omega) | simpa using h_) (seg := [.int .i64 (wrap64 (((rd_T50 x291003_2 (ji123)).f1) + a3))]) (j := 1) hcl128 hcc128 (show 2 ≤ 2 from by decide) (x' := (⟨(rd_T50 x291003_2 (ji123)).f0, wrap64 (((rd_T50 x291003_2 (ji123)).f1) + a3)⟩ : S50)) (k50_mkM _ _ _ (⟨(rd_T50 x291003_2 (ji123)).f0, wrap64 (((rd_T50 x291003_2 (ji123)).f1) + a3)⟩ : S50) ) (fun _ hk => hk)).1
              rw [← Ny300.out] at HP128
              have HQ128 := Aside0.mk HP128
              clear hcl128 hcc128 hfr128 hM128 HP128
              refine start_ (n := 14) (S := fun w' => w'.cell? ⟨gb290, 0, none⟩ = some (.int .i64 ji49) ∧ w'.cell? ⟨gb290, 1, none⟩ = some (.int .i64 0) ∧ w'.cell? ⟨gb290, 2, none⟩ = some (.slice none 0 0) ∧ w'.cell? ⟨gb290, 3, none⟩ = some (.slice (some ⟨go126, 0, none⟩) x291003_2.length co94) ∧ w'.cell? ⟨go126, ((ji123)).toNat * 2, none⟩ = some (.int .i64 ((rd_T50 x291003_2 (ji123)).f0)) ∧ w'.cell? ⟨go126, ((ji123)).toNat * 2 + 1, none⟩ = some (.int .i64 ((rd_T50 x291003_2 (ji123)).f1))) (ds := [13]) #[false, false, false, false, false, false, false, false, false, false, false, false, false, false] (by kernel_rfl) rfl rfl ⟨(blk_cell BK290.out 0).trans rfl, (blk_cell BK290.out 1).trans rfl, (blk_cell BK290.out 2).trans rfl, (blk_cell BK290.out 3).trans rfl, hx299_0, hx299_1⟩ (fun hHeld => ?_); refine with_tabW sandglassref13_Ask.tab16 sandglassref13_Ask.bits16 (fun HT_ HW_ => ?_)
              generalize wc.drew = w127 at HO_285002 HO_285003 HO_291003 BK283 BK284 BK285 BK286 BK290 BK297 HB GG126 HQ128 hf126_0 hf126_1 hx126_0 hx126_1 hx299_0 hx299_1 hHeld ⊢
              refine pureA 0 98 HT_ ?_
              refine pureA 2 100 HT_ ?_
              refine pureA 3 101 HT_ ?_
              refine pureA 5 103 HT_ ?_
              refine pureA 9 107 HT_ ?_
              refine takeA 1 99 HT_ HW_ hHeld ?_
              refine takeA 4 102 HT_ HW_ hHeld ?_
              refine pureA 6 104 HT_ ?_
              refine pureA 7 105 HT_ ?_
              refine takeA 8 106 HT_ HW_ hHeld ?_
              refine pureA 10 108 HT_ ?_
              refine pureA 11 109 HT_ ?_
              refine pureA 12 110 HT_ ?_
              refine last_ (i := 13) (N := none) #[true, true, true, true, true, true, true, true, true, true, true, true, true, true] rfl rfl (one_of HT_.out (by kernel_rfl)) (by decide) (fun K hK => ?_)
              refine skip_ (w1 := ?_) (by rfl) rfl ?_ ?_
              rotate_left
              ·go_simp
               rfl
              refine hK.out _ _ ?_
              clear hK K
              refine done_ (done_of HT_.out (by kernel_rfl)) ?_
              try go_wp2
              go_meet
              case rel => exact ⟨_, ((wrap64 (t296 + a3))), (l1_3), (y300), (0), (.slice A1_3 l1_3.length c1_3), (.slice (some ⟨go126, 0, none⟩) x291003_2.length co94), (by first | (with_reducible rfl) | rfl | (simp; done) | (simp [*]; done)), (by first | exact H' | (rw [hji113]; exact H') | (rw [hji123]; exact H') | (rw [hji49]; exact H')), ⟨by have := HJ4.out; have := HK2.out; have := HJ104.out; first | omega | exact Nat.le_refl _⟩, ⟨by (with_reducible repeat (first | apply Kd.V_alloc | apply Kd.V_drewN | apply Kd.V_drew)); exact Kd.V_mono (Kd.V_far (p := ⟨go126, ((ji123) : Int).toNat * 2 + 1, none⟩) (Kd.V_mono HO_285002.out (fun k_ hk => (⟨hk, fun e_ => hk.2.1 (by rw [e_]; rfl)⟩ : _ ∧ k_ ≠ go126))) (fun _ hk => hk.2) (.int .i64 (wrap64 (((rd_T50 x291003_2 (ji123)).f1) + a3)))) (fun _ hk => ⟨hk.1.1, ⟨hk.1.2.1, ⟨hk.1.2.2.1, ⟨hk.1.2.2.2.1, ⟨hk.1.2.2.2.2.1, ⟨hk.1.2.2.2.2.2.1, ⟨hk.1.2.2.2.2.2.2.1, hk.1.2.2.2.2.2.2.2⟩⟩⟩⟩⟩⟩⟩)⟩, ⟨by (with_reducible repeat (first | apply Kd.V_alloc | apply Kd.V_drewN | apply Kd.V_drew)); exact Kd.V_mono (Kd.V_far (p := ⟨go126, ((ji123) : Int).toNat * 2 + 1, none⟩) (Kd.V_mono HO_285003.out (fun k_ hk => (⟨hk, fun e_ => hk.2.1 (by rw [e_]; rfl)⟩ : _ ∧ k_ ≠ go126))) (fun _ hk => hk.2) (.int .i64 (wrap64 (((rd_T50 x291003_2 (ji123)).f1) + a3)))) (fun _ hk => ⟨hk.1.1, ⟨hk.1.2.1, ⟨hk.1.2.2.1, ⟨hk.1.2.2.2.1, ⟨hk.1.2.2.2.2.1, ⟨hk.1.2.2.2.2.2.1, ⟨hk.1.2.2.2.2.2.2.1, hk.1.2.2.2.2.2.2.2⟩⟩⟩⟩⟩⟩⟩)⟩, ⟨by (with_reducible repeat (first | apply Kd.R_alloc | apply Kd.R_drewN | apply Kd.R_drew)); exact HQ128.out⟩, ⟨by (with_reducible repeat (first | refine blk_drewN ?_ _ | refine blk_drew ?_ | refine blk_alloc ?_ _)); refine blk_far ?_ (by have h_ := Kd.R_ne HO_291003.out BK283.out (by decide); intro e_; exact h_ (by rw [e_]; rfl)) _; (with_reducible repeat (first | refine blk_drewN ?_ _ | refine blk_drew ?_ | refine blk_alloc ?_ _)); first | exact BK283.out | (rw [c125b0]; exact BK283.out) | (rw [c124b0]; exact BK283.out) | (rw [c104b0]; exact BK283.out) | (rw [c60b0]; exact BK283.out)⟩, ⟨by (with_reducible repeat (first | refine blk_drewN ?_ _ | refine blk_drew ?_ | refine blk_alloc ?_ _)); refine blk_far ?_ (by have h_ := Kd.R_ne HO_291003.out BK284.out (by decide); intro e_; exact h_ (by rw [e_]; rfl)) _; (with_reducible repeat (first | refine blk_drewN ?_ _ | refine blk_drew ?_ | refine blk_alloc ?_ _)); first | exact BK284.out | (rw [c125b0]; exact BK284.out) | (rw [c124b0]; exact BK284.out) | (rw [c104b0]; exact BK284.out) | (rw [c60b0]; exact BK284.out)⟩, ⟨by (with_reducible repeat (first | refine blk_drewN ?_ _ | refine blk_drew ?_ | refine blk_alloc ?_ _)); refine blk_far ?_ (by have h_ := Kd.R_ne HO_291003.out BK285.out (by decide); intro e_; exact h_ (by rw [e_]; rfl)) _; (with_reducible repeat (first | refine blk_drewN ?_ _ | refine blk_drew ?_ | refine blk_alloc ?_ _)); first | exact BK285.out | (rw [c125b0]; exact BK285.out) | (rw [c124b0]; exact BK285.out) | (rw [c104b0]; exact BK285.out) | (rw [c60b0]; exact BK285.out)⟩, ⟨by (with_reducible repeat (first | refine blk_drewN ?_ _ | refine blk_drew ?_ | refine blk_alloc ?_ _)); refine blk_far ?_ (by have h_ := Kd.R_ne HO_291003.out BK286.out (by decide); intro e_; exact h_ (by rw [e_]; rfl)) _; (with_reducible repeat (first | refine blk_drewN ?_ _ | refine blk_drew ?_ | refine blk_alloc ?_ _)); first | exact BK286.out | (rw [c125b0]; exact BK286.out) | (rw [c124b0]; exact BK286.out) | (rw [c104b0]; exact BK286.out) | (rw [c60b0]; exact BK286.out)⟩, ⟨by (with_reducible repeat (first | refine blk_drewN ?_ _ | refine blk_drew ?_ | refine blk_alloc ?_ _)); refine blk_far ?_ (by have h_ := Kd.R_ne HO_291003.out BK290.out (by decide); intro e_; exact h_ (by rw [e_]; rfl)) _; (with_reducible repeat (first | refine blk_drewN ?_ _ | refine blk_drew ?_ | refine blk_alloc ?_ _)); first | exact BK290.out | (rw [c125b0]; exact BK290.out) | (rw [c124b0]; exact BK290.out) | (rw [c104b0]; exact BK290.out) | (rw [c60b0]; exact BK290.out)⟩, ⟨by (with_reducible repeat (first | refine blk_drewN ?_ _ | refine blk_drew ?_ | refine blk_alloc ?_ _)); refine blk_far ?_ (by have h_ := Kd.R_ne HO_291003.out BK297.out (by decide); intro e_; exact h_ (by rw [e_]; rfl)) _; (with_reducible repeat (first | refine blk_drewN ?_ _ | refine blk_drew ?_ | refine blk_alloc ?_ _)); first | exact BK297.out | (rw [c125b0]; exact BK297.out) | (rw [c124b0]; exact BK297.out) | (rw [c104b0]; exact BK297.out) | (rw [c60b0]; exact BK297.out)⟩, ⟨bl HB⟩⟩
             ·rw [if_neg c125] at H
              exact absurd H (by simp)
            ·rw [if_neg c124] at H
             exact absurd H (by simp)
           ·replace c122 := Bool.eq_false_iff.mpr c122
            subst c122
            rw [if_neg (show ¬ (false = true) by decide)] at H
            by_cases c129 : x291003_2.length < 8796093022208
            ·rw [if_pos c129] at H
             have LMc129 := Aside0.mk c129
             clear c129
             obtain ⟨y301, hy301⟩ : ∃ y_ : List (S50), y_ = (x291003_2 ++ [(⟨ji49, a3⟩ : S50)]) := ⟨_, rfl⟩
             replace H : (sandglassref13_Ask.j3 kj104 ji49 (wrap64 (t296 + a3)) a0_0 a0_1 a0_2 a0_3 ji49 0 y301 (decide ((wrap64 (t296 + a3)) ≤ a0_1)) 0 0 0) = some (r1, r2, r3, r4, r5, r6, r7, r8) := by first | (rw [hy301]; with_reducible exact H) | (have H2_ := (Option.bind_some _ _).symm.trans H; rw [hy301]; with_reducible exact H2_) | (have H2_ := (Option.bind_some _ _).symm.trans H; with_reducible exact H2_) | with_reducible exact H | (rw [hy301]; exact H) | exact H
             have Ny301 := Aside0.mk hy301
             clear hy301
             have H' := Aside0.mk H
             clear H
             have hnb130 := NB290_283.out
             have hnc130 := NB283_290.out
             have hnb131 := NB290_284.out
             have hnc131 := NB284_290.out
             have hnb132 := NB290_285.out
             have hnc132 := NB285_290.out
             have hnb133 := NB290_286.out
             have hnc133 := NB286_290.out
             have hnb134 := NB290_297.out
             have hnc134 := NB297_290.out
             obtain ⟨hcz135_0, hcz135_1, hcz135_2, hcz135_3⟩ := ce4 BK290
             obtain ⟨hfz135_0, hfz135_1, hfz135_2, hfz135_3⟩ := fr4 BK290
             go_wp2_with (first | ((with_reducible refine gate_builtin (b := .append) (xs := #[.tmp 112, .tmp 116]) rfl ?_); at_builtin; refine Kd.R_append k50 (w0 := w) w.heap.size rfl (.tmp 112) (.tmp 116) 25 50 (.agg #[(.int .i64 0), (.int .i64 0)]) 16 rfl Try.underlying25 info50 rfl (by decide) (by omega) (.slice Ao94 x291003_2.length co94) x291003_2 (⟨ji49, a3⟩ : S50) [.int .i64 ji49, .int .i64 a3] (fun k_ => (w.heap.size ≤ k_)) (fun _ => False) rfl rfl ?aP (fun _ hk => hk.elim) ?aF ?aO ?aB ?aS ?aL ?_; (case aP => exact k50_mkM _ _ _ (⟨ji49, a3⟩ : S50)); (case aB => exact (bl HB)); (case aF => exact (fun k_ hk => (Nat.le_trans (below_size (bl HB)) hk))); (case aO => exact (by (with_reducible repeat (first | apply Kd.R_alloc | apply Kd.R_drewN | apply Kd.R_drew)); exact HO_291003.out)); (case aS => exact (below_size (bl HB))); (case aL => have := LMc129.out; omega); intro v302 w136 ho hb hg hat; rw [← Ny301.out] at ho; have HO303 := Aside0.mk (ho); replace HO_285002 := Aside0.mk (Kd.V_afterv (ok := (fun k_ => ((P1_2_ k_ ∨ P1_3_ k_) ∨ w.heap.size ≤ k_) ∧ k_ ≠ gb283 ∧ k_ ≠ gb284 ∧ k_ ≠ gb285 ∧ k_ ≠ gb286 ∧ k_ ≠ gb290 ∧ k_ ≠ gb297)) (by (with_reducible repeat (first | apply Kd.V_alloc | apply Kd.V_drewN | apply Kd.V_drew)); exact Kd.V_mono HO_285002.out (fun _ hk => ⟨⟨hk.1, ⟨hk.2.2.1, ⟨hk.2.2.2.1, ⟨hk.2.2.2.2.1, ⟨hk.2.2.2.2.2.1, ⟨hk.2.2.2.2.2.2.1, hk.2.2.2.2.2.2.2⟩⟩⟩⟩⟩⟩, hk.2.1⟩)) hg hat); replace HO_285003 := Aside0.mk (Kd.V_afterv (ok := (fun k_ => ((P1_2_ k_ ∨ P1_3_ k_) ∨ w.heap.size ≤ k_) ∧ k_ ≠ gb283 ∧ k_ ≠ gb284 ∧ k_ ≠ gb285 ∧ k_ ≠ gb286 ∧ k_ ≠ gb290 ∧ k_ ≠ gb297)) (by (with_reducible repeat (first | apply Kd.V_alloc | apply Kd.V_drewN | apply Kd.V_drew)); exact Kd.V_mono HO_285003.out (fun _ hk => ⟨⟨hk.1, ⟨hk.2.2.1, ⟨hk.2.2.2.1, ⟨hk.2.2.2.2.1, ⟨hk.2.2.2.2.2.1, ⟨hk.2.2.2.2.2.2.1, hk.2.2.2.2.2.2.2⟩⟩⟩⟩⟩⟩, hk.2.1⟩)) hg hat); replace BK283 := Aside0.mk (blk_grown (g := gb283) (o := .cells #[.int .i64 a0_0, .int .i64 a0_1, .int .i64 a0_2, .int .i64 a0_3] 23 (0, 0)) (bo BK283) hg (Kd.R_ne HO_291003.out BK283.out (by decide))); replace BK284 := Aside0.mk (blk_grown (g := gb284) (o := .cells #[.int .i64 a1_0, .int .i64 a1_1, .slice A1_2 l1_2.length c1_2, .slice A1_3 l1_3.length c1_3] 27 (0, 0)) (bo BK284) hg (Kd.R_ne HO_291003.out BK284.out (by decide))); replace BK285 := Aside0.mk (blk_grown (g := gb285) (o := .cells #[.int .i64 0, .int .i64 0, .slice none 0 0, .slice none 0 0] 27 (0, 0)) (bo BK285) hg (Kd.R_ne HO_291003.out BK285.out (by decide))); replace BK286 := Aside0.mk (blk_grown (g := gb286) (o := .cells #[.bool false, .int .i64 0, .int .i64 0, .int .i64 0] 32 (0, 0)) (bo BK286) hg (Kd.R_ne HO_291003.out BK286.out (by decide))); replace BK290 := Aside0.mk (blk_grown (g := gb290) (o := .cells #[.int .i64 ji49, .int .i64 0, .slice none 0 0, .slice Ao94 x291003_2.length co94] 27 (0, 0)) (bo BK290) hg (Kd.R_ne HO_291003.out BK290.out (by decide))); replace BK297 := Aside0.mk (blk_grown (g := gb297) (o := .cells #[.bool true, .int .i64 0, .int .i64 0, .int .i64 0] 32 (0, 0)) (bo BK297) hg (Kd.R_ne HO_291003.out BK297.out (by decide))); replace HB := Aside0.mk (hb); clear HO_291003; clear ho hb hg hat; obtain ⟨Ao137, co137, eo137⟩ := Kd.R_slice HO303.out; subst eo137; obtain ⟨hcz138_0, hcz138_1, hcz138_2, hcz138_3⟩ := ce4 BK290; obtain ⟨hfz138_0, hfz138_1, hfz138_2, hfz138_3⟩ := fr4 BK290))
             go_meet
             case rel => exact ⟨_, ((wrap64 (t296 + a3))), (l1_3), (y301), (0), (.slice A1_3 l1_3.length c1_3), (.slice Ao137 y301.length co137), (by first | (with_reducible rfl) | rfl | (simp; done) | (simp [*]; done)), (by first | exact H' | (rw [hji113]; exact H') | (rw [hji123]; exact H') | (rw [hji49]; exact H')), ⟨by have := HJ4.out; have := HK2.out; have := HJ104.out; first | omega | exact Nat.le_refl _⟩, ⟨by (with_reducible repeat (first | apply Kd.V_alloc | apply Kd.V_drewN | apply Kd.V_drew)); exact Kd.V_mono (Kd.V_far (p := ⟨gb290, 3, none⟩) (Kd.V_mono HO_285002.out (fun k_ hk => (⟨hk, hk.1.2.2.2.2.2.1⟩ : _ ∧ k_ ≠ gb290))) (fun _ hk => hk.2) (.slice Ao137 y301.length co137)) (fun _ hk => ⟨hk.1.1.1, ⟨hk.1.2, ⟨hk.1.1.2.1, ⟨hk.1.1.2.2.1, ⟨hk.1.1.2.2.2.1, ⟨hk.1.1.2.2.2.2.1, ⟨hk.1.1.2.2.2.2.2.1, hk.1.1.2.2.2.2.2.2⟩⟩⟩⟩⟩⟩⟩)⟩, ⟨by (with_reducible repeat (first | apply Kd.V_alloc | apply Kd.V_drewN | apply Kd.V_drew)); exact Kd.V_mono (Kd.V_far (p := ⟨gb290, 3, none⟩) (Kd.V_mono HO_285003.out (fun k_ hk => (⟨hk, hk.1.2.2.2.2.2.1⟩ : _ ∧ k_ ≠ gb290))) (fun _ hk => hk.2) (.slice Ao137 y301.length co137)) (fun _ hk => ⟨hk.1.1.1, ⟨hk.1.2, ⟨hk.1.1.2.1, ⟨hk.1.1.2.2.1, ⟨hk.1.1.2.2.2.1, ⟨hk.1.1.2.2.2.2.1, ⟨hk.1.1.2.2.2.2.2.1, hk.1.1.2.2.2.2.2.2⟩⟩⟩⟩⟩⟩⟩)⟩, ⟨by (with_reducible repeat (first | apply Kd.R_alloc | apply Kd.R_drewN | apply Kd.R_drew)); exact Kd.R_mono (Kd.R_far (p := ⟨gb290, 3, none⟩) (Kd.R_types HO303.out BK290.out (by decide)) (fun _ hk => hk.2) (.slice Ao137 y301.length co137)) (fun _ hk => hk.1)⟩, ⟨by (with_reducible repeat (first | refine blk_drewN ?_ _ | refine blk_drew ?_ | refine blk_alloc ?_ _)); refine blk_far ?_ NB283_290.out _; (with_reducible repeat (first | refine blk_drewN ?_ _ | refine blk_drew ?_ | refine blk_alloc ?_ _)); first | exact BK283.out | (rw [c104b0]; exact BK283.out) | (rw [c60b0]; exact BK283.out)⟩, ⟨by (with_reducible repeat (first | refine blk_drewN ?_ _ | refine blk_drew ?_ | refine blk_alloc ?_ _)); refine blk_far ?_ NB284_290.out _; (with_reducible repeat (first | refine blk_drewN ?_ _ | refine blk_drew ?_ | refine blk_alloc ?_ _)); first | exact BK284.out | (rw [c104b0]; exact BK284.out) | (rw [c60b0]; exact BK284.out)⟩, ⟨by (with_reducible repeat (first | refine blk_drewN ?_ _ | refine blk_drew ?_ | refine blk_alloc ?_ _)); refine blk_far ?_ NB285_290.out _; (with_reducible repeat (first | refine blk_drewN ?_ _ | refine blk_drew ?_ | refine blk_alloc ?_ _)); first | exact BK285.out | (rw [c104b0]; exact BK285.out) | (rw [c60b0]; exact BK285.out)⟩, ⟨by (with_reducible repeat (first | refine blk_drewN ?_ _ | refine blk_drew ?_ | refine blk_alloc ?_ _)); refine blk_far ?_ NB286_290.out _; (with_reducible repeat (first | refine blk_drewN ?_ _ | refine blk_drew ?_ | refine blk_alloc ?_ _)); first | exact BK286.out | (rw [c104b0]; exact BK286.out) | (rw [c60b0]; exact BK286.out)⟩, ⟨by (with_reducible repeat (first | refine blk_drewN ?_ _ | refine blk_drew ?_ | refine blk_alloc ?_ _)); refine blk_put (cs := #[.int .i64 ji49, .int .i64 0, .slice none 0 0, .slice Ao94 x291003_2.length co94]) ?_ 3 _ rfl; (with_reducible repeat (first | refine blk_drewN ?_ _ | refine blk_drew ?_ | refine blk_alloc ?_ _)); first | exact BK290.out | (rw [c104b0]; exact BK290.out) | (rw [c60b0]; exact BK290.out)⟩, ⟨by (with_reducible repeat (first | refine blk_drewN ?_ _ | refine blk_drew ?_ | refine blk_alloc ?_ _)); refine blk_far ?_ NB297_290.out _; (with_reducible repeat (first | refine blk_drewN ?_ _ | refine blk_drew ?_ | refine blk_alloc ?_ _)); first | exact BK297.out | (rw [c104b0]; exact BK297.out) | (rw [c60b0]; exact BK297.out)⟩, ⟨bl HB⟩⟩
            ·rw [if_neg c129] at H
             exact absurd H (by simp)
        ·rw [if_neg c104] at H
         have c104b0 : decide ((wrap64 (t296 + a3)) ≤ a0_1) = false := decide_eq_false c104
         clear c104
         (first | rw [c104b0] | (simp only [i64_w, i32_w]; rw [c104b0]) | skip)
         by_cases c139 : a3 > a0_1
         ·rw [if_pos c139] at H
          have c139b0 : decide (a0_1 < a3) = true := decide_eq_true c139
          clear c139
          have H' := Aside0.mk H
          clear H
          have hnb140 := NB283_284.out
          have hnc140 := NB284_283.out
          have hnb141 := NB283_285.out
          have hnc141 := NB285_283.out
          have hnb142 := NB283_286.out
          have hnc142 := NB286_283.out
          have hnb143 := NB283_290.out
          have hnc143 := NB290_283.out
          have hnb144 := NB283_297.out
          have hnc144 := NB297_283.out
          obtain ⟨hcz145_0, hcz145_1, hcz145_2, hcz145_3⟩ := ce4 BK283
          obtain ⟨hfz145_0, hfz145_1, hfz145_2, hfz145_3⟩ := fr4 BK283
          have hnb146 := NB297_284.out
          have hnc146 := NB284_297.out
          have hnb147 := NB297_285.out
          have hnc147 := NB285_297.out
          have hnb148 := NB297_286.out
          have hnc148 := NB286_297.out
          have hnb149 := NB297_290.out
          have hnc149 := NB290_297.out
          obtain ⟨hcz150_0, hcz150_1, hcz150_2, hcz150_3⟩ := ce4 BK297
          obtain ⟨hfz150_0, hfz150_1, hfz150_2, hfz150_3⟩ := fr4 BK297
          go_wp2
          go_meet
          case rel => exact ⟨_, (t296), (l1_3), (x291003_2), (2199023255552), (.slice A1_3 l1_3.length c1_3), (.slice Ao94 x291003_2.length co94), (by first | (with_reducible rfl) | rfl | (simp; done) | (simp [*]; done)), (by first | exact H' | (rw [hji113]; exact H') | (rw [hji123]; exact H') | (rw [hji49]; exact H')), ⟨by have := HJ4.out; have := HK2.out; first | omega | exact Nat.le_refl _⟩, ⟨by (with_reducible repeat (first | apply Kd.V_alloc | apply Kd.V_drewN | apply Kd.V_drew)); exact Kd.V_mono (Kd.V_far (p := ⟨gb297, 2, none⟩) (Kd.V_far (p := ⟨gb297, 3, none⟩) (Kd.V_far (p := ⟨gb297, 2, none⟩) (Kd.V_far (p := ⟨gb297, 1, none⟩) (Kd.V_far (p := ⟨gb297, 0, none⟩) (Kd.V_mono HO_285002.out (fun k_ hk => (⟨hk, hk.2⟩ : _ ∧ k_ ≠ gb297))) (fun _ hk => hk.2) (.bool false)) (fun _ hk => hk.2) (.int .i64 0)) (fun _ hk => hk.2) (.int .i64 0)) (fun _ hk => hk.2) (.int .i64 0)) (fun _ hk => hk.2) (.int .i64 2199023255552)) (fun _ hk => ⟨hk.1.1.1, ⟨hk.1.1.2.1, ⟨hk.1.1.2.2.1, ⟨hk.1.1.2.2.2.1, ⟨hk.1.1.2.2.2.2.1, ⟨hk.1.1.2.2.2.2.2.1, ⟨hk.1.1.2.2.2.2.2.2, hk.1.2⟩⟩⟩⟩⟩⟩⟩)⟩, ⟨by (with_reducible repeat (first | apply Kd.V_alloc | apply Kd.V_drewN | apply Kd.V_drew)); exact Kd.V_mono (Kd.V_far (p := ⟨gb297, 2, none⟩) (Kd.V_far (p := ⟨gb297, 3, none⟩) (Kd.V_far (p := ⟨gb297, 2, none⟩) (Kd.V_far (p := ⟨gb297, 1, none⟩) (Kd.V_far (p := ⟨gb297, 0, none⟩) (Kd.V_mono HO_285003.out (fun k_ hk => (⟨hk, hk.2⟩ : _ ∧ k_ ≠ gb297))) (fun _ hk => hk.2) (.bool false)) (fun _ hk => hk.2) (.int .i64 0)) (fun _ hk => hk.2) (.int .i64 0)) (fun _ hk => hk.2) (.int .i64 0)) (fun _ hk => hk.2) (.int .i64 2199023255552)) (fun _ hk => ⟨hk.1.1.1, ⟨hk.1.1.2.1, ⟨hk.1.1.2.2.1, ⟨hk.1.1.2.2.2.1, ⟨hk.1.1.2.2.2.2.1, ⟨hk.1.1.2.2.2.2.2.1, ⟨hk.1.1.2.2.2.2.2.2, hk.1.2⟩⟩⟩⟩⟩⟩⟩)⟩, ⟨by (with_reducible repeat (first | apply Kd.R_alloc | apply Kd.R_drewN | apply Kd.R_drew)); exact Kd.R_mono (Kd.R_far (p := ⟨gb297, 2, none⟩) (Kd.R_far (p := ⟨gb297, 3, none⟩) (Kd.R_far (p := ⟨gb297, 2, none⟩) (Kd.R_far (p := ⟨gb297, 1, none⟩) (Kd.R_far (p := ⟨gb297, 0, none⟩) (Kd.R_types HO_291003.out BK297.out (by decide)) (fun _ hk => hk.2) (.bool false)) (fun _ hk => hk.2) (.int .i64 0)) (fun _ hk => hk.2) (.int .i64 0)) (fun _ hk => hk.2) (.int .i64 0)) (fun _ hk => hk.2) (.int .i64 2199023255552)) (fun _ hk => hk.1)⟩, ⟨by (with_reducible repeat (first | refine blk_drewN ?_ _ | refine blk_drew ?_ | refine blk_alloc ?_ _)); refine blk_far ?_ NB283_297.out _; (with_reducible repeat (first | refine blk_drewN ?_ _ | refine blk_drew ?_ | refine blk_alloc ?_ _)); refine blk_far ?_ NB283_297.out _; (with_reducible repeat (first | refine blk_drewN ?_ _ | refine blk_drew ?_ | refine blk_alloc ?_ _)); refine blk_far ?_ NB283_297.out _; (with_reducible repeat (first | refine blk_drewN ?_ _ | refine blk_drew ?_ | refine blk_alloc ?_ _)); refine blk_far ?_ NB283_297.out _; (with_reducible repeat (first | refine blk_drewN ?_ _ | refine blk_drew ?_ | refine blk_alloc ?_ _)); refine blk_far ?_ NB283_297.out _; (with_reducible repeat (first | refine blk_drewN ?_ _ | refine blk_drew ?_ | refine blk_alloc ?_ _)); first | exact BK283.out | (rw [c139b0]; exact BK283.out) | (rw [c104b0]; exact BK283.out) | (rw [c60b0]; exact BK283.out)⟩, ⟨by (with_reducible repeat (first | refine blk_drewN ?_ _ | refine blk_drew ?_ | refine blk_alloc ?_ _)); refine blk_far ?_ NB284_297.out _; (with_reducible repeat (first | refine blk_drewN ?_ _ | refine blk_drew ?_ | refine blk_alloc ?_ _)); refine blk_far ?_ NB284_297.out _; (with_reducible repeat (first | refine blk_drewN ?_ _ | refine blk_drew ?_ | refine blk_alloc ?_ _)); refine blk_far ?_ NB284_297.out _; (with_reducible repeat (first | refine blk_drewN ?_ _ | refine blk_drew ?_ | refine blk_alloc ?_ _)); refine blk_far ?_ NB284_297.out _; (with_reducible repeat (first | refine blk_drewN ?_ _ | refine blk_drew ?_ | refine blk_alloc ?_ _)); refine blk_far ?_ NB284_297.out _; (with_reducible repeat (first | refine blk_drewN ?_ _ | refine blk_drew ?_ | refine blk_alloc ?_ _)); first | exact BK284.out | (rw [c139b0]; exact BK284.out) | (rw [c104b0]; exact BK284.out) | (rw [c60b0]; exact BK284.out)⟩, ⟨by (with_reducible repeat (first | refine blk_drewN ?_ _ | refine blk_drew ?_ | refine blk_alloc ?_ _)); refine blk_far ?_ NB285_297.out _; (with_reducible repeat (first | refine blk_drewN ?_ _ | refine blk_drew ?_ | refine blk_alloc ?_ _)); refine blk_far ?_ NB285_297.out _; (with_reducible repeat (first | refine blk_drewN ?_ _ | refine blk_drew ?_ | refine blk_alloc ?_ _)); refine blk_far ?_ NB285_297.out _; (with_reducible repeat (first | refine blk_drewN ?_ _ | refine blk_drew ?_ | refine blk_alloc ?_ _)); refine blk_far ?_ NB285_297.out _; (with_reducible repeat (first | refine blk_drewN ?_ _ | refine blk_drew ?_ | refine blk_alloc ?_ _)); refine blk_far ?_ NB285_297.out _; (with_reducible repeat (first | refine blk_drewN ?_ _ | refine blk_drew ?_ | refine blk_alloc ?_ _)); first | exact BK285.out | (rw [c139b0]; exact BK285.out) | (rw [c104b0]; exact BK285.out) | (rw [c60b0]; exact BK285.out)⟩, ⟨by (with_reducible repeat (first | refine blk_drewN ?_ _ | refine blk_drew ?_ | refine blk_alloc ?_ _)); refine blk_far ?_ NB286_297.out _; (with_reducible repeat (first | refine blk_drewN ?_ _ | refine blk_drew ?_ | refine blk_alloc ?_ _)); refine blk_far ?_ NB286_297.out _; (with_reducible repeat (first | refine blk_drewN ?_ _ | refine blk_drew ?_ | refine blk_alloc ?_ _)); refine blk_far ?_ NB286_297.out _; (with_reducible repeat (first | refine blk_drewN ?_ _ | refine blk_drew ?_ | refine blk_alloc ?_ _)); refine blk_far ?_ NB286_297.out _; (with_reducible repeat (first | refine blk_drewN ?_ _ | refine blk_drew ?_ | refine blk_alloc ?_ _)); refine blk_far ?_ NB286_297.out _; (with_reducible repeat (first | refine blk_drewN ?_ _ | refine blk_drew ?_ | refine blk_alloc ?_ _)); first | exact BK286.out | (rw [c139b0]; exact BK286.out) | (rw [c104b0]; exact BK286.out) | (rw [c60b0]; exact BK286.out)⟩, ⟨by (with_reducible repeat (first | refine blk_drewN ?_ _ | refine blk_drew ?_ | refine blk_alloc ?_ _)); refine blk_far ?_ NB290_297.out _; (with_reducible repeat (first | refine blk_drewN ?_ _ | refine blk_drew ?_ | refine blk_alloc ?_ _)); refine blk_far ?_ NB290_297.out _; (with_reducible repeat (first | refine blk_drewN ?_ _ | refine blk_drew ?_ | refine blk_alloc ?_ _)); refine blk_far ?_ NB290_297.out _; (with_reducible repeat (first | refine blk_drewN ?_ _ | refine blk_drew ?_ | refine blk_alloc ?_ _)); refine blk_far ?_ NB290_297.out _; (with_reducible repeat (first | refine blk_drewN ?_ _ | refine blk_drew ?_ | refine blk_alloc ?_ _)); refine blk_far ?_ NB290_297.out _; (with_reducible repeat (first | refine blk_drewN ?_ _ | refine blk_drew ?_ | refine blk_alloc ?_ _)); first | exact BK290.out | (rw [c139b0]; exact BK290.out) | (rw [c104b0]; exact BK290.out) | (rw [c60b0]; exact BK290.out)⟩, ⟨by (with_reducible repeat (first | refine blk_drewN ?_ _ | refine blk_drew ?_ | refine blk_alloc ?_ _)); refine blk_put (cs := #[.bool false, .int .i64 0, .int .i64 0, .int .i64 0]) ?_ 2 _ (by first | rfl | (rw [c139b0]; rfl) | (rw [c104b0]; rfl) | (rw [c60b0]; rfl)); (with_reducible repeat (first | refine blk_drewN ?_ _ | refine blk_drew ?_ | refine blk_alloc ?_ _)); refine blk_put (cs := #[.bool false, .int .i64 0, .int .i64 0, .int .i64 0]) ?_ 3 _ (by first | rfl | (rw [c139b0]; rfl) | (rw [c104b0]; rfl) | (rw [c60b0]; rfl)); (with_reducible repeat (first | refine blk_drewN ?_ _ | refine blk_drew ?_ | refine blk_alloc ?_ _)); refine blk_put (cs := #[.bool false, .int .i64 0, .int .i64 0, .int .i64 0]) ?_ 2 _ (by first | rfl | (rw [c139b0]; rfl) | (rw [c104b0]; rfl) | (rw [c60b0]; rfl)); (with_reducible repeat (first | refine blk_drewN ?_ _ | refine blk_drew ?_ | refine blk_alloc ?_ _)); refine blk_put (cs := #[.bool false, .int .i64 0, .int .i64 0, .int .i64 0]) ?_ 1 _ (by first | rfl | (rw [c139b0]; rfl) | (rw [c104b0]; rfl) | (rw [c60b0]; rfl)); (with_reducible repeat (first | refine blk_drewN ?_ _ | refine blk_drew ?_ | refine blk_alloc ?_ _)); refine blk_put (cs := #[.bool false, .int .i64 0, .int .i64 0, .int .i64 0]) ?_ 0 _ (by first | rfl | (rw [c139b0]; rfl) | (rw [c104b0]; rfl) | (rw [c60b0]; rfl)); (with_reducible repeat (first | refine blk_drewN ?_ _ | refine blk_drew ?_ | refine blk_alloc ?_ _)); first | exact BK297.out | (rw [c139b0]; exact BK297.out) | (rw [c104b0]; exact BK297.out) | (rw [c60b0]; exact BK297.out)⟩, ⟨bl HB⟩⟩
         ·rw [if_neg c139] at H
          have c139b0 : decide (a0_1 < a3) = false := decide_eq_false c139
          clear c139
          replace H := Option.bind_eq_some_iff.mp H
          obtain ⟨t304, A1510, H⟩ := H
          have A151 := Aside0.mk A1510
          clear A1510
          have H' := Aside0.mk H
          clear H
          have hnb152 := NB283_284.out
          have hnc152 := NB284_283.out
          have hnb153 := NB283_285.out
          have hnc153 := NB285_283.out
          have hnb154 := NB283_286.out
          have hnc154 := NB286_283.out
          have hnb155 := NB283_290.out
          have hnc155 := NB290_283.out
          have hnb156 := NB283_297.out
          have hnc156 := NB297_283.out
          obtain ⟨hcz157_0, hcz157_1, hcz157_2, hcz157_3⟩ := ce4 BK283
          obtain ⟨hfz157_0, hfz157_1, hfz157_2, hfz157_3⟩ := fr4 BK283
          have hnb158 := NB290_284.out
          have hnc158 := NB284_290.out
          have hnb159 := NB290_285.out
          have hnc159 := NB285_290.out
          have hnb160 := NB290_286.out
          have hnc160 := NB286_290.out
          have hnb161 := NB290_297.out
          have hnc161 := NB297_290.out
          obtain ⟨hcz162_0, hcz162_1, hcz162_2, hcz162_3⟩ := ce4 BK290
          obtain ⟨hfz162_0, hfz162_1, hfz162_2, hfz162_3⟩ := fr4 BK290
          go_wp2_with (first | ((with_reducible refine gate_callee (f := 29) rfl ?_); refine goesL_ (some 132) rfl rfl Try.func29 (by kernel_rfl) rfl #[.agg #[.int .i64 a0_0, .int .i64 a0_1, .int .i64 a0_2, .int .i64 a0_3], .slice Ao94 x291003_2.length co94, .int .i64 ji49, .int .i64 (wrap64 (a0_1 - a3))] rfl (by (try simp only [List.map_toArray, List.map_cons, List.map_nil]); first | done | (simp only [hji49]; rfl) | rfl | (simp only [List.length_drop, List.length_take]; rfl)) ?_; (with_reducible refine (sandglassref13_wait.calls k2 a0_0 a0_1 a0_2 a0_3 _ _ x291003_2 ji49 (wrap64 (a0_1 - a3)) t304 _ ?side1 ?side2 A151.out).mono ?_); (case side1 => refine (Kd.R_reads' (e := 50) (base := w.heap.size) (ok := fun k_ => (w.heap.size ≤ k_)) (n := x291003_2.length) (c := co94) ?_).2.2; exact (by (with_reducible repeat (first | apply Kd.R_alloc | apply Kd.R_drewN | apply Kd.R_drew)); exact (Kd.R_mono (Kd.R_far (p := ⟨gb297, 3, none⟩) (Kd.R_far (p := ⟨gb297, 2, none⟩) (Kd.R_far (p := ⟨gb297, 1, none⟩) (Kd.R_far (p := ⟨gb297, 0, none⟩) (Kd.R_types HO_291003.out BK297.out (by decide)) (fun _ hk => hk.2) (.bool false)) (fun _ hk => hk.2) (.int .i64 0)) (fun _ hk => hk.2) (.int .i64 0)) (fun _ hk => hk.2) (.int .i64 0)) (fun _ h_ => h_.1)))); (case side2 => exact (Kd.R_reads' HO_291003.out).2.1); rintro e w163 ⟨rfl, hb⟩; refine ⟨_, rfl, ?_⟩; replace HO_285002 := Aside0.mk (Kd.V_below (by (with_reducible repeat (first | apply Kd.V_alloc | apply Kd.V_drewN | apply Kd.V_drew)); exact (Kd.V_mono (Kd.V_far (p := ⟨gb297, 3, none⟩) (Kd.V_far (p := ⟨gb297, 2, none⟩) (Kd.V_far (p := ⟨gb297, 1, none⟩) (Kd.V_far (p := ⟨gb297, 0, none⟩) (Kd.V_mono HO_285002.out (fun k_ hk => (⟨hk, hk.2⟩ : _ ∧ k_ ≠ gb297))) (fun _ hk => hk.2) (.bool false)) (fun _ hk => hk.2) (.int .i64 0)) (fun _ hk => hk.2) (.int .i64 0)) (fun _ hk => hk.2) (.int .i64 0)) (fun _ h_ => h_.1))) hb); replace HO_285003 := Aside0.mk (Kd.V_below (by (with_reducible repeat (first | apply Kd.V_alloc | apply Kd.V_drewN | apply Kd.V_drew)); exact (Kd.V_mono (Kd.V_far (p := ⟨gb297, 3, none⟩) (Kd.V_far (p := ⟨gb297, 2, none⟩) (Kd.V_far (p := ⟨gb297, 1, none⟩) (Kd.V_far (p := ⟨gb297, 0, none⟩) (Kd.V_mono HO_285003.out (fun k_ hk => (⟨hk, hk.2⟩ : _ ∧ k_ ≠ gb297))) (fun _ hk => hk.2) (.bool false)) (fun _ hk => hk.2) (.int .i64 0)) (fun _ hk => hk.2) (.int .i64 0)) (fun _ hk => hk.2) (.int .i64 0)) (fun _ h_ => h_.1))) hb); replace HO_291003 := Aside0.mk (Kd.R_below (by (with_reducible repeat (first | apply Kd.R_alloc | apply Kd.R_drewN | apply Kd.R_drew)); exact (Kd.R_mono (Kd.R_far (p := ⟨gb297, 3, none⟩) (Kd.R_far (p := ⟨gb297, 2, none⟩) (Kd.R_far (p := ⟨gb297, 1, none⟩) (Kd.R_far (p := ⟨gb297, 0, none⟩) (Kd.R_types HO_291003.out BK297.out (by decide)) (fun _ hk => hk.2) (.bool false)) (fun _ hk => hk.2) (.int .i64 0)) (fun _ hk => hk.2) (.int .i64 0)) (fun _ hk => hk.2) (.int .i64 0)) (fun _ h_ => h_.1))) hb); replace BK283 := Aside0.mk (blk_below (g := gb283) (o := .cells #[.int .i64 a0_0, .int .i64 a0_1, .int .i64 a0_2, .int .i64 a0_3] 23 (0, 0)) (by (with_reducible repeat (first | refine blk_drewN ?_ _ | refine blk_drew ?_ | refine blk_alloc ?_ _)); refine blk_far ?_ NB283_297.out _; (with_reducible repeat (first | refine blk_drewN ?_ _ | refine blk_drew ?_ | refine blk_alloc ?_ _)); refine blk_far ?_ NB283_297.out _; (with_reducible repeat (first | refine blk_drewN ?_ _ | refine blk_drew ?_ | refine blk_alloc ?_ _)); refine blk_far ?_ NB283_297.out _; (with_reducible repeat (first | refine blk_drewN ?_ _ | refine blk_drew ?_ | refine blk_alloc ?_ _)); refine blk_far ?_ NB283_297.out _; (with_reducible repeat (first | refine blk_drewN ?_ _ | refine blk_drew ?_ | refine blk_alloc ?_ _)); exact BK283.out) hb); replace BK284 := Aside0.mk (blk_below (g := gb284) (o := .cells #[.int .i64 a1_0, .int .i64 a1_1, .slice A1_2 l1_2.length c1_2, .slice A1_3 l1_3.length c1_3] 27 (0, 0)) (by (with_reducible repeat (first | refine blk_drewN ?_ _ | refine blk_drew ?_ | refine blk_alloc ?_ _)); refine blk_far ?_ NB284_297.out _; (with_reducible repeat (first | refine blk_drewN ?_ _ | refine blk_drew ?_ | refine blk_alloc ?_ _)); refine blk_far ?_ NB284_297.out _; (with_reducible repeat (first | refine blk_drewN ?_ _ | refine blk_drew ?_ | refine blk_alloc ?_ _)); refine blk_far ?_ NB284_297.out _; (with_reducible repeat (first | refine blk_drewN ?_ _ | refine blk_drew ?_ | refine blk_alloc ?_ _)); refine blk_far ?_ NB284_297.out _; (with_reducible repeat (first | refine blk_drewN ?_ _ | refine blk_drew ?_ | refine blk_alloc ?_ _)); exact BK284.out) hb); replace BK285 := Aside0.mk (blk_below (g := gb285) (o := .cells #[.int .i64 0, .int .i64 0, .slice none 0 0, .slice none 0 0] 27 (0, 0)) (by (with_reducible repeat (first | refine blk_drewN ?_ _ | refine blk_drew ?_ | refine blk_alloc ?_ _)); refine blk_far ?_ NB285_297.out _; (with_reducible repeat (first | refine blk_drewN ?_ _ | refine blk_drew ?_ | refine blk_alloc ?_ _)); refine blk_far ?_ NB285_297.out _; (with_reducible repeat (first | refine blk_drewN ?_ _ | refine blk_drew ?_ | refine blk_alloc ?_ _)); refine blk_far ?_ NB285_297.out _; (with_reducible repeat (first | refine blk_drewN ?_ _ | refine blk_drew ?_ | refine blk_alloc ?_ _)); refine blk_far ?_ NB285_297.out _; (with_reducible repeat (first | refine blk_drewN ?_ _ | refine blk_drew ?_ | refine blk_alloc ?_ _)); exact BK285.out) hb); replace BK286 := Aside0.mk (blk_below (g := gb286) (o := .cells #[.bool false, .int .i64 0, .int .i64 0, .int .i64 0] 32 (0, 0)) (by (with_reducible repeat (first | refine blk_drewN ?_ _ | refine blk_drew ?_ | refine blk_alloc ?_ _)); refine blk_far ?_ NB286_297.out _; (with_reducible repeat (first | refine blk_drewN ?_ _ | refine blk_drew ?_ | refine blk_alloc ?_ _)); refine blk_far ?_ NB286_297.out _; (with_reducible repeat (first | refine blk_drewN ?_ _ | refine blk_drew ?_ | refine blk_alloc ?_ _)); refine blk_far ?_ NB286_297.out _; (with_reducible repeat (first | refine blk_drewN ?_ _ | refine blk_drew ?_ | refine blk_alloc ?_ _)); refine blk_far ?_ NB286_297.out _; (with_reducible repeat (first | refine blk_drewN ?_ _ | refine blk_drew ?_ | refine blk_alloc ?_ _)); exact BK286.out) hb); replace BK290 := Aside0.mk (blk_below (g := gb290) (o := .cells #[.int .i64 ji49, .int .i64 0, .slice none 0 0, .slice Ao94 x291003_2.length co94] 27 (0, 0)) (by (with_reducible repeat (first | refine blk_drewN ?_ _ | refine blk_drew ?_ | refine blk_alloc ?_ _)); refine blk_far ?_ NB290_297.out _; (with_reducible repeat (first | refine blk_drewN ?_ _ | refine blk_drew ?_ | refine blk_alloc ?_ _)); refine blk_far ?_ NB290_297.out _; (with_reducible repeat (first | refine blk_drewN ?_ _ | refine blk_drew ?_ | refine blk_alloc ?_ _)); refine blk_far ?_ NB290_297.out _; (with_reducible repeat (first | refine blk_drewN ?_ _ | refine blk_drew ?_ | refine blk_alloc ?_ _)); refine blk_far ?_ NB290_297.out _; (with_reducible repeat (first | refine blk_drewN ?_ _ | refine blk_drew ?_ | refine blk_alloc ?_ _)); exact BK290.out) hb); replace BK297 := Aside0.mk (blk_below (g := gb297) (o := .cells #[.bool false, .int .i64 0, .int .i64 0, .int .i64 0] 32 (0, 0)) (by (with_reducible repeat (first | refine blk_drewN ?_ _ | refine blk_drew ?_ | refine blk_alloc ?_ _)); refine blk_put (cs := #[.bool false, .int .i64 0, .int .i64 0, .int .i64 0]) ?_ 3 _ rfl; (with_reducible repeat (first | refine blk_drewN ?_ _ | refine blk_drew ?_ | refine blk_alloc ?_ _)); refine blk_put (cs := #[.bool false, .int .i64 0, .int .i64 0, .int .i64 0]) ?_ 2 _ rfl; (with_reducible repeat (first | refine blk_drewN ?_ _ | refine blk_drew ?_ | refine blk_alloc ?_ _)); refine blk_put (cs := #[.bool false, .int .i64 0, .int .i64 0, .int .i64 0]) ?_ 1 _ rfl; (with_reducible repeat (first | refine blk_drewN ?_ _ | refine blk_drew ?_ | refine blk_alloc ?_ _)); refine blk_put (cs := #[.bool false, .int .i64 0, .int .i64 0, .int .i64 0]) ?_ 0 _ rfl; (with_reducible repeat (first | refine blk_drewN ?_ _ | refine blk_drew ?_ | refine blk_alloc ?_ _)); exact BK297.out) hb); replace HB := Aside0.mk (below_step (bl HB) hb); (try clear hb); (try clear hb2); (try clear hk); (try clear hi); have hnb164 := NB297_284.out; have hnc164 := NB284_297.out; have hnb165 := NB297_285.out; have hnc165 := NB285_297.out; have hnb166 := NB297_286.out; have hnc166 := NB286_297.out; obtain ⟨hcz167_0, hcz167_1, hcz167_2, hcz167_3⟩ := ce4 BK297; obtain ⟨hfz167_0, hfz167_1, hfz167_2, hfz167_3⟩ := fr4 BK297))
          go_meet
          case rel => exact ⟨_, (t296), (l1_3), (x291003_2), (t304), (.slice A1_3 l1_3.length c1_3), (.slice Ao94 x291003_2.length co94), (by first | (with_reducible rfl) | rfl | (simp; done) | (simp [*]; done)), (by first | exact H' | (rw [hji113]; exact H') | (rw [hji123]; exact H') | (rw [hji49]; exact H')), ⟨by have := HJ4.out; have := HK2.out; first | omega | exact Nat.le_refl _⟩, ⟨by (with_reducible repeat (first | apply Kd.V_alloc | apply Kd.V_drewN | apply Kd.V_drew)); exact Kd.V_mono (Kd.V_far (p := ⟨gb297, 2, none⟩) (Kd.V_mono HO_285002.out (fun k_ hk => (⟨hk, hk.2⟩ : _ ∧ k_ ≠ gb297))) (fun _ hk => hk.2) (.int .i64 t304)) (fun _ hk => ⟨hk.1.1.1, ⟨hk.1.1.2.1, ⟨hk.1.1.2.2.1, ⟨hk.1.1.2.2.2.1, ⟨hk.1.1.2.2.2.2.1, ⟨hk.1.1.2.2.2.2.2.1, ⟨hk.1.1.2.2.2.2.2.2, hk.1.2⟩⟩⟩⟩⟩⟩⟩)⟩, ⟨by (with_reducible repeat (first | apply Kd.V_alloc | apply Kd.V_drewN | apply Kd.V_drew)); exact Kd.V_mono (Kd.V_far (p := ⟨gb297, 2, none⟩) (Kd.V_mono HO_285003.out (fun k_ hk => (⟨hk, hk.2⟩ : _ ∧ k_ ≠ gb297))) (fun _ hk => hk.2) (.int .i64 t304)) (fun _ hk => ⟨hk.1.1.1, ⟨hk.1.1.2.1, ⟨hk.1.1.2.2.1, ⟨hk.1.1.2.2.2.1, ⟨hk.1.1.2.2.2.2.1, ⟨hk.1.1.2.2.2.2.2.1, ⟨hk.1.1.2.2.2.2.2.2, hk.1.2⟩⟩⟩⟩⟩⟩⟩)⟩, ⟨by (with_reducible repeat (first | apply Kd.R_alloc | apply Kd.R_drewN | apply Kd.R_drew)); exact Kd.R_mono (Kd.R_far (p := ⟨gb297, 2, none⟩) (Kd.R_types HO_291003.out BK297.out (by decide)) (fun _ hk => hk.2) (.int .i64 t304)) (fun _ hk => hk.1)⟩, ⟨by (with_reducible repeat (first | refine blk_drewN ?_ _ | refine blk_drew ?_ | refine blk_alloc ?_ _)); refine blk_far ?_ NB283_297.out _; (with_reducible repeat (first | refine blk_drewN ?_ _ | refine blk_drew ?_ | refine blk_alloc ?_ _)); first | exact BK283.out | (rw [c139b0]; exact BK283.out) | (rw [c104b0]; exact BK283.out) | (rw [c60b0]; exact BK283.out)⟩, ⟨by (with_reducible repeat (first | refine blk_drewN ?_ _ | refine blk_drew ?_ | refine blk_alloc ?_ _)); refine blk_far ?_ NB284_297.out _; (with_reducible repeat (first | refine blk_drewN ?_ _ | refine blk_drew ?_ | refine blk_alloc ?_ _)); first | exact BK284.out | (rw [c139b0]; exact BK284.out) | (rw [c104b0]; exact BK284.out) | (rw [c60b0]; exact BK284.out)⟩, ⟨by (with_reducible repeat (first | refine blk_drewN ?_ _ | refine blk_drew ?_ | refine blk_alloc ?_ _)); refine blk_far ?_ NB285_297.out _; (with_reducible repeat (first | refine blk_drewN ?_ _ | refine blk_drew ?_ | refine blk_alloc ?_ _)); first | exact BK285.out | (rw [c139b0]; exact BK285.out) | (rw [c104b0]; exact BK285.out) | (rw [c60b0]; exact BK285.out)⟩, ⟨by (with_reducible repeat (first | refine blk_drewN ?_ _ | refine blk_drew ?_ | refine blk_alloc ?_ _)); refine blk_far ?_ NB286_297.out _; (with_reducible repeat (first | refine blk_drewN ?_ _ | refine blk_drew ?_ | refine blk_alloc ?_ _)); first | exact BK286.out | (rw [c139b0]; exact BK286.out) | (rw [c104b0]; exact BK286.out) | (rw [c60b0]; exact BK286.out)⟩, ⟨by (with_reducible repeat (first | refine blk_drewN ?_ _ | refine blk_drew ?_ | refine blk_alloc ?_ _)); refine blk_far ?_ NB290_297.out _; (with_reducible repeat (first | refine blk_drewN ?_ _ | refine blk_drew ?_ | refine blk_alloc ?_ _)); first | exact BK290.out | (rw [c139b0]; exact BK290.out) | (rw [c104b0]; exact BK290.out) | (rw [c60b0]; exact BK290.out)⟩, ⟨by (with_reducible repeat (first | refine blk_drewN ?_ _ | refine blk_drew ?_ | refine blk_alloc ?_ _)); refine blk_put (cs := #[.bool false, .int .i64 0, .int .i64 0, .int .i64 0]) ?_ 2 _ (by first | rfl | (rw [c139b0]; rfl) | (rw [c104b0]; rfl) | (rw [c60b0]; rfl)); (with_reducible repeat (first | refine blk_drewN ?_ _ | refine blk_drew ?_ | refine blk_alloc ?_ _)); first | exact BK297.out | (rw [c139b0]; exact BK297.out) | (rw [c104b0]; exact BK297.out) | (rw [c60b0]; exact BK297.out)⟩, ⟨bl HB⟩⟩
       case rest =>
        clear HC81
        try clear c11; try clear c13; try clear c60; try clear c60b0; try clear c61; try clear c62; try clear c62b0; try clear c63; try clear c104; try clear c104b0; try clear c112; try clear c112b0; try clear c114; try clear c114b0; try clear c115; try clear c115b0; try clear c122; try clear c124; try clear c124b0; try clear c125; try clear c125b0; try clear p126; try clear q126; try clear c129; try clear c139; try clear c139b0; try clear hcz103_0; try clear hcz103_1; try clear hcz103_2; try clear hcz103_3; try clear hcz111_0; try clear hcz111_1; try clear hcz111_2; try clear hcz111_3; try clear hcz121_0; try clear hcz121_1; try clear hcz121_2; try clear hcz121_3; try clear hcz135_0; try clear hcz135_1; try clear hcz135_2; try clear hcz135_3; try clear hcz138_0; try clear hcz138_1; try clear hcz138_2; try clear hcz138_3; try clear hcz145_0; try clear hcz145_1; try clear hcz145_2; try clear hcz145_3; try clear hcz150_0; try clear hcz150_1; try clear hcz150_2; try clear hcz150_3; try clear hcz157_0; try clear hcz157_1; try clear hcz157_2; try clear hcz157_3; try clear hcz162_0; try clear hcz162_1; try clear hcz162_2; try clear hcz162_3; try clear hcz167_0; try clear hcz167_1; try clear hcz167_2; try clear hcz167_3; try clear hcz78_0; try clear hcz78_1; try clear hcz78_2; try clear hcz78_3; try clear hcz86_0; try clear hcz86_1; try clear hcz86_2; try clear hcz86_3; try clear hcz90_0; try clear hcz90_1; try clear hcz90_2; try clear hcz90_3; try clear hcz93_0; try clear hcz93_1; try clear hcz93_2; try clear hcz93_3; try clear hcz96_0; try clear hcz96_1; try clear hcz96_2; try clear hcz96_3; try clear hfz103_0; try clear hfz103_1; try clear hfz103_2; try clear hfz103_3; try clear hfz111_0; try clear hfz111_1; try clear hfz111_2; try clear hfz111_3; try clear hfz121_0; try clear hfz121_1; try clear hfz121_2; try clear hfz121_3; try clear hfz135_0; try clear hfz135_1; try clear hfz135_2; try clear hfz135_3; try clear hfz138_0; try clear hfz138_1; try clear hfz138_2; try clear hfz138_3; try clear hfz145_0; try clear hfz145_1; try clear hfz145_2; try clear hfz145_3; try clear hfz150_0; try clear hfz150_1; try clear hfz150_2; try clear hfz150_3; try clear hfz157_0; try clear hfz157_1; try clear hfz157_2; try clear hfz157_3; try clear hfz162_0; try clear hfz162_1; try clear hfz162_2; try clear hfz162_3; try clear hfz167_0; try clear hfz167_1; try clear hfz167_2; try clear hfz167_3; try clear hfz78_0; try clear hfz78_1; try clear hfz78_2; try clear hfz78_3; try clear hfz86_0; try clear hfz86_1; try clear hfz86_2; try clear hfz86_3; try clear hfz90_0; try clear hfz90_1; try clear hfz90_2; try clear hfz90_3; try clear hfz93_0; try clear hfz93_1; try clear hfz93_2; try clear hfz93_3; try clear hfz96_0; try clear hfz96_1; try clear hfz96_2; try clear hfz96_3; try clear hx126_0; try clear hx126_1; try clear hx291_0; try clear hx291_1; try clear hx292_0; try clear hx292_1; try clear hx298_0; try clear hx298_1; try clear hx299_0; try clear hx299_1; try clear p126; try clear p291; try clear p292; try clear p298; try clear p299; try clear q126; try clear q291; try clear q292; try clear q298; try clear q299
        obtain ⟨kq, x12_80, x285003_80, x291003_80, x298002_80, u285003, u291003, rfl, HA, HJ80, HO_285002, HO_285003, HO_291003, BK283, BK284, BK285, BK286, BK290, BK297, HB⟩ := hcut
        cases kq with
        | zero => exact absurd HA.out (by simp [sandglassref13_Ask.j3])
        | succ kj80 =>
         have H := HA.out
         clear HA
         simp only [sandglassref13_Ask.j3] at H
         replace H := Option.bind_eq_some_iff.mp H
         obtain ⟨t305, A1680, H⟩ := H
         have A168 := Aside0.mk A1680
         clear A1680
         simp only [Option.some.injEq, Prod.mk.injEq] at H
         obtain ⟨rfl, rfl, rfl, rfl, rfl, rfl, rfl, rfl⟩ := H
         have hnb169 := NB283_284.out
         have hnc169 := NB284_283.out
         have hnb170 := NB283_285.out
         have hnc170 := NB285_283.out
         have hnb171 := NB283_286.out
         have hnc171 := NB286_283.out
         have hnb172 := NB283_290.out
         have hnc172 := NB290_283.out
         have hnb173 := NB283_297.out
         have hnc173 := NB297_283.out
         obtain ⟨hcz174_0, hcz174_1, hcz174_2, hcz174_3⟩ := ce4 BK283
         obtain ⟨hfz174_0, hfz174_1, hfz174_2, hfz174_3⟩ := fr4 BK283
         have hnb175 := NB297_284.out
         have hnc175 := NB284_297.out
         have hnb176 := NB297_285.out
         have hnc176 := NB285_297.out
         have hnb177 := NB297_286.out
         have hnc177 := NB286_297.out
         have hnb178 := NB297_290.out
         have hnc178 := NB290_297.out
         obtain ⟨hcz179_0, hcz179_1, hcz179_2, hcz179_3⟩ := ce4 BK297
         obtain ⟨hfz179_0, hfz179_1, hfz179_2, hfz179_3⟩ := fr4 BK297
         have hnb180 := NB290_284.out
         have hnc180 := NB284_290.out
         have hnb181 := NB290_285.out
         have hnc181 := NB285_290.out
         have hnb182 := NB290_286.out
         have hnc182 := NB286_290.out
         obtain ⟨hcz183_0, hcz183_1, hcz183_2, hcz183_3⟩ := ce4 BK290
         obtain ⟨hfz183_0, hfz183_1, hfz183_2, hfz183_3⟩ := fr4 BK290
         obtain ⟨Ao184, co184, eo184⟩ := Kd.R_slice HO_291003.out
         subst eo184
         try go_wp2_with (first | ((with_reducible refine gate_callee (f := 29) rfl ?_); refine goesL_ (some 143) rfl rfl Try.func29 (by kernel_rfl) rfl #[.agg #[.int .i64 a0_0, .int .i64 a0_1, .int .i64 a0_2, .int .i64 a0_3], .slice Ao184 x291003_80.length co184, .int .i64 ji49, .int .i64 0] rfl (by (try simp only [List.map_toArray, List.map_cons, List.map_nil]); first | done | (simp only [hji49]; rfl) | rfl | (simp only [List.length_drop, List.length_take]; rfl)) ?_; (with_reducible refine (sandglassref13_wait.calls kj80 a0_0 a0_1 a0_2 a0_3 _ _ x291003_80 ji49 0 t305 _ ?side1 ?side2 A168.out).mono ?_); (case side1 => refine (Kd.R_reads' (e := 50) (base := w.heap.size) (ok := fun k_ => (w.heap.size ≤ k_)) (n := x291003_80.length) (c := co184) ?_).2.2; exact (by (with_reducible repeat (first | apply Kd.R_alloc | apply Kd.R_drewN | apply Kd.R_drew)); exact (Kd.R_mono (Kd.R_far (p := ⟨gb297, 1, none⟩) (Kd.R_types HO_291003.out BK297.out (by decide)) (fun _ hk => hk.2) (.int .i64 (wrap64 (a0_1 - x12_80)))) (fun _ h_ => h_.1)))); (case side2 => exact (Kd.R_reads' HO_291003.out).2.1); rintro e w185 ⟨rfl, hb⟩; refine ⟨_, rfl, ?_⟩; replace HO_285002 := Aside0.mk (Kd.V_below (by (with_reducible repeat (first | apply Kd.V_alloc | apply Kd.V_drewN | apply Kd.V_drew)); exact (Kd.V_mono (Kd.V_far (p := ⟨gb297, 1, none⟩) (Kd.V_mono HO_285002.out (fun k_ hk => (⟨hk, hk.2.2.2.2.2.2.2⟩ : _ ∧ k_ ≠ gb297))) (fun _ hk => hk.2) (.int .i64 (wrap64 (a0_1 - x12_80)))) (fun _ h_ => h_.1))) hb); replace HO_285003 := Aside0.mk (Kd.V_below (by (with_reducible repeat (first | apply Kd.V_alloc | apply Kd.V_drewN | apply Kd.V_drew)); exact (Kd.V_mono (Kd.V_far (p := ⟨gb297, 1, none⟩) (Kd.V_mono HO_285003.out (fun k_ hk => (⟨hk, hk.2.2.2.2.2.2.2⟩ : _ ∧ k_ ≠ gb297))) (fun _ hk => hk.2) (.int .i64 (wrap64 (a0_1 - x12_80)))) (fun _ h_ => h_.1))) hb); replace HO_291003 := Aside0.mk (Kd.R_below (by (with_reducible repeat (first | apply Kd.R_alloc | apply Kd.R_drewN | apply Kd.R_drew)); exact (Kd.R_mono (Kd.R_far (p := ⟨gb297, 1, none⟩) (Kd.R_types HO_291003.out BK297.out (by decide)) (fun _ hk => hk.2) (.int .i64 (wrap64 (a0_1 - x12_80)))) (fun _ h_ => h_.1))) hb); replace BK283 := Aside0.mk (blk_below (g := gb283) (o := .cells #[.int .i64 a0_0, .int .i64 a0_1, .int .i64 a0_2, .int .i64 a0_3] 23 (0, 0)) (by (with_reducible repeat (first | refine blk_drewN ?_ _ | refine blk_drew ?_ | refine blk_alloc ?_ _)); refine blk_far ?_ NB283_297.out _; (with_reducible repeat (first | refine blk_drewN ?_ _ | refine blk_drew ?_ | refine blk_alloc ?_ _)); exact BK283.out) hb); replace BK284 := Aside0.mk (blk_below (g := gb284) (o := .cells #[.int .i64 a1_0, .int .i64 a1_1, .slice A1_2 l1_2.length c1_2, u285003] 27 (0, 0)) (by (with_reducible repeat (first | refine blk_drewN ?_ _ | refine blk_drew ?_ | refine blk_alloc ?_ _)); refine blk_far ?_ NB284_297.out _; (with_reducible repeat (first | refine blk_drewN ?_ _ | refine blk_drew ?_ | refine blk_alloc ?_ _)); exact BK284.out) hb); replace BK285 := Aside0.mk (blk_below (g := gb285) (o := .cells #[.int .i64 0, .int .i64 0, .slice none 0 0, .slice none 0 0] 27 (0, 0)) (by (with_reducible repeat (first | refine blk_drewN ?_ _ | refine blk_drew ?_ | refine blk_alloc ?_ _)); refine blk_far ?_ NB285_297.out _; (with_reducible repeat (first | refine blk_drewN ?_ _ | refine blk_drew ?_ | refine blk_alloc ?_ _)); exact BK285.out) hb); replace BK286 := Aside0.mk (blk_below (g := gb286) (o := .cells #[.bool false, .int .i64 0, .int .i64 0, .int .i64 0] 32 (0, 0)) (by (with_reducible repeat (first | refine blk_drewN ?_ _ | refine blk_drew ?_ | refine blk_alloc ?_ _)); refine blk_far ?_ NB286_297.out _; (with_reducible repeat (first | refine blk_drewN ?_ _ | refine blk_drew ?_ | refine blk_alloc ?_ _)); exact BK286.out) hb); replace BK290 := Aside0.mk (blk_below (g := gb290) (o := .cells #[.int .i64 ji49, .int .i64 0, .slice none 0 0, .slice Ao184 x291003_80.length co184] 27 (0, 0)) (by (with_reducible repeat (first | refine blk_drewN ?_ _ | refine blk_drew ?_ | refine blk_alloc ?_ _)); refine blk_far ?_ NB290_297.out _; (with_reducible repeat (first | refine blk_drewN ?_ _ | refine blk_drew ?_ | refine blk_alloc ?_ _)); exact BK290.out) hb); replace BK297 := Aside0.mk (blk_below (g := gb297) (o := .cells #[.bool (decide ((wrap64 (t296 + a3)) ≤ a0_1)), .int .i64 (wrap64 (a0_1 - x12_80)), .int .i64 x298002_80, .int .i64 0] 32 (0, 0)) (by (with_reducible repeat (first | refine blk_drewN ?_ _ | refine blk_drew ?_ | refine blk_alloc ?_ _)); refine blk_put (cs := #[.bool (decide ((wrap64 (t296 + a3)) ≤ a0_1)), .int .i64 0, .int .i64 x298002_80, .int .i64 0]) ?_ 1 _ rfl; (with_reducible repeat (first | refine blk_drewN ?_ _ | refine blk_drew ?_ | refine blk_alloc ?_ _)); exact BK297.out) hb); replace HB := Aside0.mk (below_step (bl HB) hb); (try clear hb); (try clear hb2); (try clear hk); (try clear hi); obtain ⟨hcz186_0, hcz186_1, hcz186_2, hcz186_3⟩ := ce4 BK297; obtain ⟨hfz186_0, hfz186_1, hfz186_2, hfz186_3⟩ := fr4 BK297))
         (try rw [show ∀ (w_ : World) (n_ : Nat) (p_ : Addr) (v_ : Value), (w_.drewN n_).setCell p_ v_ = (w_.setCell p_ v_).drewN n_ from fun _ _ _ _ => rfl])
         have n0_ : Aside0 (Kd.V (Kd.int .i64) 3 (w185.setCell ⟨gb297, 3, none⟩ (.int .i64 t305)) w.heap.size (fun k_ => ((P1_2_ k_ ∨ P1_3_ k_) ∨ w.heap.size ≤ k_) ∧ some k_ ≠ (.slice Ao184 x291003_80.length co184 : Value).ownBlock ∧ k_ ≠ gb283 ∧ k_ ≠ gb284 ∧ k_ ≠ gb285 ∧ k_ ≠ gb286 ∧ k_ ≠ gb290 ∧ k_ ≠ gb297) (.slice A1_2 l1_2.length c1_2) l1_2) := ⟨by (with_reducible repeat (first | apply Kd.V_alloc | apply Kd.V_drewN | apply Kd.V_drew)); exact Kd.V_mono (Kd.V_far (p := ⟨gb297, 3, none⟩) (Kd.V_mono HO_285002.out (fun k_ hk => (⟨hk, hk.2.2.2.2.2.2.2⟩ : _ ∧ k_ ≠ gb297))) (fun _ hk => hk.2) (.int .i64 t305)) (fun _ hk => ⟨hk.1.1, ⟨hk.1.2.1, ⟨hk.1.2.2.1, ⟨hk.1.2.2.2.1, ⟨hk.1.2.2.2.2.1, ⟨hk.1.2.2.2.2.2.1, ⟨hk.1.2.2.2.2.2.2.1, hk.1.2.2.2.2.2.2.2⟩⟩⟩⟩⟩⟩⟩)⟩
         have n1_ : Aside0 (Kd.V k50 50 (w185.setCell ⟨gb297, 3, none⟩ (.int .i64 t305)) w.heap.size (fun k_ => ((P1_2_ k_ ∨ P1_3_ k_) ∨ w.heap.size ≤ k_) ∧ some k_ ≠ (.slice Ao184 x291003_80.length co184 : Value).ownBlock ∧ k_ ≠ gb283 ∧ k_ ≠ gb284 ∧ k_ ≠ gb285 ∧ k_ ≠ gb286 ∧ k_ ≠ gb290 ∧ k_ ≠ gb297) u285003 x285003_80) := ⟨by (with_reducible repeat (first | apply Kd.V_alloc | apply Kd.V_drewN | apply Kd.V_drew)); exact Kd.V_mono (Kd.V_far (p := ⟨gb297, 3, none⟩) (Kd.V_mono HO_285003.out (fun k_ hk => (⟨hk, hk.2.2.2.2.2.2.2⟩ : _ ∧ k_ ≠ gb297))) (fun _ hk => hk.2) (.int .i64 t305)) (fun _ hk => ⟨hk.1.1, ⟨hk.1.2.1, ⟨hk.1.2.2.1, ⟨hk.1.2.2.2.1, ⟨hk.1.2.2.2.2.1, ⟨hk.1.2.2.2.2.2.1, ⟨hk.1.2.2.2.2.2.2.1, hk.1.2.2.2.2.2.2.2⟩⟩⟩⟩⟩⟩⟩)⟩
         have n2_ : Aside0 (Kd.R k50 50 (w185.setCell ⟨gb297, 3, none⟩ (.int .i64 t305)) w.heap.size (fun k_ => (w.heap.size ≤ k_)) (.slice Ao184 x291003_80.length co184) x291003_80) := ⟨by (with_reducible repeat (first | apply Kd.R_alloc | apply Kd.R_drewN | apply Kd.R_drew)); exact Kd.R_mono (Kd.R_far (p := ⟨gb297, 3, none⟩) (Kd.R_types HO_291003.out BK297.out (by decide)) (fun _ hk => hk.2) (.int .i64 t305)) (fun _ hk => hk.1)⟩
         have n3_ : Aside0 ((w185.setCell ⟨gb297, 3, none⟩ (.int .i64 t305)).heap[gb283]? = some (.cells #[.int .i64 a0_0, .int .i64 a0_1, .int .i64 a0_2, .int .i64 a0_3] 23 (0, 0))) := ⟨by (with_reducible repeat (first | refine blk_drewN ?_ _ | refine blk_drew ?_ | refine blk_alloc ?_ _)); refine blk_far ?_ NB283_297.out _; (with_reducible repeat (first | refine blk_drewN ?_ _ | refine blk_drew ?_ | refine blk_alloc ?_ _)); exact BK283.out⟩
         have n4_ : Aside0 ((w185.setCell ⟨gb297, 3, none⟩ (.int .i64 t305)).heap[gb284]? = some (.cells #[.int .i64 a1_0, .int .i64 a1_1, .slice A1_2 l1_2.length c1_2, u285003] 27 (0, 0))) := ⟨by (with_reducible repeat (first | refine blk_drewN ?_ _ | refine blk_drew ?_ | refine blk_alloc ?_ _)); refine blk_far ?_ NB284_297.out _; (with_reducible repeat (first | refine blk_drewN ?_ _ | refine blk_drew ?_ | refine blk_alloc ?_ _)); exact BK284.out⟩
         have n5_ : Aside0 ((w185.setCell ⟨gb297, 3, none⟩ (.int .i64 t305)).heap[gb285]? = some (.cells #[.int .i64 0, .int .i64 0, .slice none 0 0, .slice none 0 0] 27 (0, 0))) := ⟨by (with_reducible repeat (first | refine blk_drewN ?_ _ | refine blk_drew ?_ | refine blk_alloc ?_ _)); refine blk_far ?_ NB285_297.out _; (with_reducible repeat (first | refine blk_drewN ?_ _ | refine blk_drew ?_ | refine blk_alloc ?_ _)); exact BK285.out⟩
         have n6_ : Aside0 ((w185.setCell ⟨gb297, 3, none⟩ (.int .i64 t305)).heap[gb286]? = some (.cells #[.bool false, .int .i64 0, .int .i64 0, .int .i64 0] 32 (0, 0))) := ⟨by (with_reducible repeat (first | refine blk_drewN ?_ _ | refine blk_drew ?_ | refine blk_alloc ?_ _)); refine blk_far ?_ NB286_297.out _; (with_reducible repeat (first | refine blk_drewN ?_ _ | refine blk_drew ?_ | refine blk_alloc ?_ _)); exact BK286.out⟩
         have n7_ : Aside0 ((w185.setCell ⟨gb297, 3, none⟩ (.int .i64 t305)).heap[gb290]? = some (.cells #[.int .i64 ji49, .int .i64 0, .slice none 0 0, .slice Ao184 x291003_80.length co184] 27 (0, 0))) := ⟨by (with_reducible repeat (first | refine blk_drewN ?_ _ | refine blk_drew ?_ | refine blk_alloc ?_ _)); refine blk_far ?_ NB290_297.out _; (with_reducible repeat (first | refine blk_drewN ?_ _ | refine blk_drew ?_ | refine blk_alloc ?_ _)); exact BK290.out⟩
         have n8_ : Aside0 ((w185.setCell ⟨gb297, 3, none⟩ (.int .i64 t305)).heap[gb297]? = some (.cells #[.bool (decide ((wrap64 (t296 + a3)) ≤ a0_1)), .int .i64 (wrap64 (a0_1 - x12_80)), .int .i64 x298002_80, .int .i64 t305] 32 (0, 0))) := ⟨by (with_reducible repeat (first | refine blk_drewN ?_ _ | refine blk_drew ?_ | refine blk_alloc ?_ _)); refine blk_put (cs := #[.bool (decide ((wrap64 (t296 + a3)) ≤ a0_1)), .int .i64 (wrap64 (a0_1 - x12_80)), .int .i64 x298002_80, .int .i64 0]) ?_ 3 _ rfl; (with_reducible repeat (first | refine blk_drewN ?_ _ | refine blk_drew ?_ | refine blk_alloc ?_ _)); exact BK297.out⟩
         have n9_ : Aside0 (Below w.heap.size w (w185.setCell ⟨gb297, 3, none⟩ (.int .i64 t305))) := ⟨bl HB⟩
         (try clear HO_285002)
         (try clear HO_285003)
         (try clear HO_291003)
         (try clear BK283)
         (try clear BK284)
         (try clear BK285)
         (try clear BK286)
         (try clear BK290)
         (try clear BK297)
         (try clear HB)
         generalize (w185.setCell ⟨gb297, 3, none⟩ (.int .i64 t305)) = w187 at n0_ n1_ n2_ n3_ n4_ n5_ n6_ n7_ n8_ n9_ ⊢
         have HO_285002 := n0_
         have HO_285003 := n1_
         have HO_291003 := n2_
         have BK283 := n3_
         have BK284 := n4_
         have BK285 := n5_
         have BK286 := n6_
         have BK290 := n7_
         have BK297 := n8_
         have HB := n9_
         clear n0_ n1_ n2_ n3_ n4_ n5_ n6_ n7_ n8_ n9_
         replace HO_285002 := Aside0.mk (Kd.V_drew HO_285002.out)
         replace HO_285003 := Aside0.mk (Kd.V_drew HO_285003.out)
         replace HO_291003 := Aside0.mk (Kd.R_drew HO_291003.out)
         replace BK283 := Aside0.mk (blk_drew BK283.out)
         replace BK284 := Aside0.mk (blk_drew BK284.out)
         replace BK285 := Aside0.mk (blk_drew BK285.out)
         replace BK286 := Aside0.mk (blk_drew BK286.out)
         replace BK290 := Aside0.mk (blk_drew BK290.out)
         replace BK297 := Aside0.mk (blk_drew BK297.out)
         replace HB := Aside0.mk (below_drew1 HB.out)
         refine start_ (n := 4) (S := fun w' => w'.cell? ⟨gb290, 0, none⟩ = some (.int .i64 ji49) ∧ w'.cell? ⟨gb290, 1, none⟩ = some (.int .i64 0) ∧ w'.cell? ⟨gb290, 2, none⟩ = some (.slice none 0 0) ∧ w'.cell? ⟨gb290, 3, none⟩ = some (.slice Ao184 x291003_80.length co184) ∧ w'.cell? ⟨gb297, 0, none⟩ = some (.bool (decide ((wrap64 (t296 + a3)) ≤ a0_1))) ∧ w'.cell? ⟨gb297, 1, none⟩ = some (.int .i64 (wrap64 (a0_1 - x12_80))) ∧ w'.cell? ⟨gb297, 2, none⟩ = some (.int .i64 x298002_80) ∧ w'.cell? ⟨gb297, 3, none⟩ = some (.int .i64 t305)) (ds := []) #[false, false, false, false] (by kernel_rfl) rfl rfl ⟨(blk_cell BK290.out 0).trans rfl, (blk_cell BK290.out 1).trans rfl, (blk_cell BK290.out 2).trans rfl, (blk_cell BK290.out 3).trans rfl, (blk_cell BK297.out 0).trans rfl, (blk_cell BK297.out 1).trans rfl, (blk_cell BK297.out 2).trans rfl, (blk_cell BK297.out 3).trans rfl⟩ (fun hHeld => ?_)
         generalize w187.drew = w188 at HO_285002 HO_285003 HO_291003 BK283 BK284 BK285 BK286 BK290 BK297 HB hHeld ⊢
         refine takeB' 0 145 hHeld ?_
         refine takeB' 1 146 hHeld ?_
         refine one_ (i := 2) (N := none) #[true, true, true, false] rfl rfl (by kernel_rfl) (by decide) (fun K hK => ?_)
         have hs189 : w188.cell? ⟨gb285, 0, none⟩ = some (.int .i64 0) := (blk_cell BK285.out 0).trans rfl
         have hfs189 := blk_frozen BK285.out 0
         have hns189_0 := NB283_285.out
         have hns189_1 := NB284_285.out
         have hns189_3 := NB286_285.out
         have hns189_4 := NB290_285.out
         have hns189_5 := NB297_285.out
         have hms189_0 := NB285_283.out
         have hms189_1 := NB285_284.out
         have hms189_3 := NB285_286.out
         have hms189_4 := NB285_290.out
         have hms189_5 := NB285_297.out
         have hs190 : w188.cell? ⟨gb285, 1, none⟩ = some (.int .i64 0) := (blk_cell BK285.out 1).trans rfl
         have hfs190 := blk_frozen BK285.out 1
         have hns190_0 := NB283_285.out
         have hns190_1 := NB284_285.out
         have hns190_3 := NB286_285.out
         have hns190_4 := NB290_285.out
         have hns190_5 := NB297_285.out
         have hms190_0 := NB285_283.out
         have hms190_1 := NB285_284.out
         have hms190_3 := NB285_286.out
         have hms190_4 := NB285_290.out
         have hms190_5 := NB285_297.out
         have hs191 : w188.cell? ⟨gb285, 2, none⟩ = some (.slice none 0 0) := (blk_cell BK285.out 2).trans rfl
         have hfs191 := blk_frozen BK285.out 2
         have hns191_0 := NB283_285.out
         have hns191_1 := NB284_285.out
         have hns191_3 := NB286_285.out
         have hns191_4 := NB290_285.out
         have hns191_5 := NB297_285.out
         have hms191_0 := NB285_283.out
         have hms191_1 := NB285_284.out
         have hms191_3 := NB285_286.out
         have hms191_4 := NB285_290.out
         have hms191_5 := NB285_297.out
         have hs192 : w188.cell? ⟨gb285, 3, none⟩ = some (.slice none 0 0) := (blk_cell BK285.out 3).trans rfl
         have hfs192 := blk_frozen BK285.out 3
         have hns192_0 := NB283_285.out
         have hns192_1 := NB284_285.out
         have hns192_3 := NB286_285.out
         have hns192_4 := NB290_285.out
         have hns192_5 := NB297_285.out
         have hms192_0 := NB285_283.out
         have hms192_1 := NB285_284.out
         have hms192_3 := NB285_286.out
         have hms192_4 := NB285_290.out
         have hms192_5 := NB285_297.out
         refine skip_ (w1 := ?_) (by rfl) rfl ?_ ?_
         rotate_left
         ·go_simp
          rfl
         refine hK.out _ _ ⟨((cell_far (p := ⟨gb285, _, none⟩) NB290_285.out _).trans (((cell_far (p := ⟨gb285, _, none⟩) NB290_285.out _).trans (((cell_far (p := ⟨gb285, _, none⟩) NB290_285.out _).trans (((cell_far (p := ⟨gb285, _, none⟩) NB290_285.out _).trans (hHeld.1)))))))), ((cell_far (p := ⟨gb285, _, none⟩) NB290_285.out _).trans (((cell_far (p := ⟨gb285, _, none⟩) NB290_285.out _).trans (((cell_far (p := ⟨gb285, _, none⟩) NB290_285.out _).trans (((cell_far (p := ⟨gb285, _, none⟩) NB290_285.out _).trans (hHeld.2.1)))))))), ((cell_far (p := ⟨gb285, _, none⟩) NB290_285.out _).trans (((cell_far (p := ⟨gb285, _, none⟩) NB290_285.out _).trans (((cell_far (p := ⟨gb285, _, none⟩) NB290_285.out _).trans (((cell_far (p := ⟨gb285, _, none⟩) NB290_285.out _).trans (hHeld.2.2.1)))))))), ((cell_far (p := ⟨gb285, _, none⟩) NB290_285.out _).trans (((cell_far (p := ⟨gb285, _, none⟩) NB290_285.out _).trans (((cell_far (p := ⟨gb285, _, none⟩) NB290_285.out _).trans (((cell_far (p := ⟨gb285, _, none⟩) NB290_285.out _).trans (hHeld.2.2.2.1)))))))), ((cell_far (p := ⟨gb285, _, none⟩) NB297_285.out _).trans (((cell_far (p := ⟨gb285, _, none⟩) NB297_285.out _).trans (((cell_far (p := ⟨gb285, _, none⟩) NB297_285.out _).trans (((cell_far (p := ⟨gb285, _, none⟩) NB297_285.out _).trans (hHeld.2.2.2.2.1)))))))), ((cell_far (p := ⟨gb285, _, none⟩) NB297_285.out _).trans (((cell_far (p := ⟨gb285, _, none⟩) NB297_285.out _).trans (((cell_far (p := ⟨gb285, _, none⟩) NB297_285.out _).trans (((cell_far (p := ⟨gb285, _, none⟩) NB297_285.out _).trans (hHeld.2.2.2.2.2.1)))))))), ((cell_far (p := ⟨gb285, _, none⟩) NB297_285.out _).trans (((cell_far (p := ⟨gb285, _, none⟩) NB297_285.out _).trans (((cell_far (p := ⟨gb285, _, none⟩) NB297_285.out _).trans (((cell_far (p := ⟨gb285, _, none⟩) NB297_285.out _).trans (hHeld.2.2.2.2.2.2.1)))))))), ((cell_far (p := ⟨gb285, _, none⟩) NB297_285.out _).trans (((cell_far (p := ⟨gb285, _, none⟩) NB297_285.out _).trans (((cell_far (p := ⟨gb285, _, none⟩) NB297_285.out _).trans (((cell_far (p := ⟨gb285, _, none⟩) NB297_285.out _).trans (hHeld.2.2.2.2.2.2.2))))))))⟩ (fun hHeld => ?_)
         clear hK K
         refine one_ (i := 3) (N := none) #[true, true, true, true] rfl rfl (by kernel_rfl) (by decide) (fun K hK => ?_)
         have hs193 : w188.cell? ⟨gb286, 0, none⟩ = some (.bool false) := (blk_cell BK286.out 0).trans rfl
         have hfs193 := blk_frozen BK286.out 0
         have hns193_0 := NB283_286.out
         have hns193_1 := NB284_286.out
         have hns193_2 := NB285_286.out
         have hns193_4 := NB290_286.out
         have hns193_5 := NB297_286.out
         have hms193_0 := NB286_283.out
         have hms193_1 := NB286_284.out
         have hms193_2 := NB286_285.out
         have hms193_4 := NB286_290.out
         have hms193_5 := NB286_297.out
         have hs194 : w188.cell? ⟨gb286, 1, none⟩ = some (.int .i64 0) := (blk_cell BK286.out 1).trans rfl
         have hfs194 := blk_frozen BK286.out 1
         have hns194_0 := NB283_286.out
         have hns194_1 := NB284_286.out
         have hns194_2 := NB285_286.out
         have hns194_4 := NB290_286.out
         have hns194_5 := NB297_286.out
         have hms194_0 := NB286_283.out
         have hms194_1 := NB286_284.out
         have hms194_2 := NB286_285.out
         have hms194_4 := NB286_290.out
         have hms194_5 := NB286_297.out
         have hs195 : w188.cell? ⟨gb286, 2, none⟩ = some (.int .i64 0) := (blk_cell BK286.out 2).trans rfl
         have hfs195 := blk_frozen BK286.out 2
         have hns195_0 := NB283_286.out
         have hns195_1 := NB284_286.out
         have hns195_2 := NB285_286.out
         have hns195_4 := NB290_286.out
         have hns195_5 := NB297_286.out
         have hms195_0 := NB286_283.out
         have hms195_1 := NB286_284.out
         have hms195_2 := NB286_285.out
         have hms195_4 := NB286_290.out
         have hms195_5 := NB286_297.out
         have hs196 : w188.cell? ⟨gb286, 3, none⟩ = some (.int .i64 0) := (blk_cell BK286.out 3).trans rfl
         have hfs196 := blk_frozen BK286.out 3
         have hns196_0 := NB283_286.out
         have hns196_1 := NB284_286.out
         have hns196_2 := NB285_286.out
         have hns196_4 := NB290_286.out
         have hns196_5 := NB297_286.out
         have hms196_0 := NB286_283.out
         have hms196_1 := NB286_284.out
         have hms196_2 := NB286_285.out
         have hms196_4 := NB286_290.out
         have hms196_5 := NB286_297.out
         refine skip_ (w1 := ?_) (by rfl) rfl ?_ ?_
         rotate_left
         ·go_simp
          rfl
         refine hK.out _ _ ⟨((cell_far (p := ⟨gb286, _, none⟩) NB290_286.out _).trans (((cell_far (p := ⟨gb286, _, none⟩) NB290_286.out _).trans (((cell_far (p := ⟨gb286, _, none⟩) NB290_286.out _).trans (((cell_far (p := ⟨gb286, _, none⟩) NB290_286.out _).trans (hHeld.1)))))))), ((cell_far (p := ⟨gb286, _, none⟩) NB290_286.out _).trans (((cell_far (p := ⟨gb286, _, none⟩) NB290_286.out _).trans (((cell_far (p := ⟨gb286, _, none⟩) NB290_286.out _).trans (((cell_far (p := ⟨gb286, _, none⟩) NB290_286.out _).trans (hHeld.2.1)))))))), ((cell_far (p := ⟨gb286, _, none⟩) NB290_286.out _).trans (((cell_far (p := ⟨gb286, _, none⟩) NB290_286.out _).trans (((cell_far (p := ⟨gb286, _, none⟩) NB290_286.out _).trans (((cell_far (p := ⟨gb286, _, none⟩) NB290_286.out _).trans (hHeld.2.2.1)))))))), ((cell_far (p := ⟨gb286, _, none⟩) NB290_286.out _).trans (((cell_far (p := ⟨gb286, _, none⟩) NB290_286.out _).trans (((cell_far (p := ⟨gb286, _, none⟩) NB290_286.out _).trans (((cell_far (p := ⟨gb286, _, none⟩) NB290_286.out _).trans (hHeld.2.2.2.1)))))))), ((cell_far (p := ⟨gb286, _, none⟩) NB297_286.out _).trans (((cell_far (p := ⟨gb286, _, none⟩) NB297_286.out _).trans (((cell_far (p := ⟨gb286, _, none⟩) NB297_286.out _).trans (((cell_far (p := ⟨gb286, _, none⟩) NB297_286.out _).trans (hHeld.2.2.2.2.1)))))))), ((cell_far (p := ⟨gb286, _, none⟩) NB297_286.out _).trans (((cell_far (p := ⟨gb286, _, none⟩) NB297_286.out _).trans (((cell_far (p := ⟨gb286, _, none⟩) NB297_286.out _).trans (((cell_far (p := ⟨gb286, _, none⟩) NB297_286.out _).trans (hHeld.2.2.2.2.2.1)))))))), ((cell_far (p := ⟨gb286, _, none⟩) NB297_286.out _).trans (((cell_far (p := ⟨gb286, _, none⟩) NB297_286.out _).trans (((cell_far (p := ⟨gb286, _, none⟩) NB297_286.out _).trans (((cell_far (p := ⟨gb286, _, none⟩) NB297_286.out _).trans (hHeld.2.2.2.2.2.2.1)))))))), ((cell_far (p := ⟨gb286, _, none⟩) NB297_286.out _).trans (((cell_far (p := ⟨gb286, _, none⟩) NB297_286.out _).trans (((cell_far (p := ⟨gb286, _, none⟩) NB297_286.out _).trans (((cell_far (p := ⟨gb286, _, none⟩) NB297_286.out _).trans (hHeld.2.2.2.2.2.2.2))))))))⟩ (fun hHeld => ?_)
         clear hK K
         refine done_ (by kernel_rfl) ?_
         try go_wp2
         refine bodyPost_ret (results_cc rfl _ _ gb285 gb286 27 32 #[.int .i64 ji49, .int .i64 0, .slice none 0 0, .slice Ao184 x291003_80.length co184] #[.bool (decide ((wrap64 (t296 + a3)) ≤ a0_1)), .int .i64 (wrap64 (a0_1 - x12_80)), .int .i64 x298002_80, .int .i64 t305] (0, 0) (0, 0) _ _ rfl (by (with_reducible repeat (first | refine blk_drewN ?_ _ | refine blk_drew ?_ | refine blk_alloc ?_ _)); refine blk_far ?_ NB285_286.out _; (with_reducible repeat (first | refine blk_drewN ?_ _ | refine blk_drew ?_ | refine blk_alloc ?_ _)); refine blk_far ?_ NB285_286.out _; (with_reducible repeat (first | refine blk_drewN ?_ _ | refine blk_drew ?_ | refine blk_alloc ?_ _)); refine blk_far ?_ NB285_286.out _; (with_reducible repeat (first | refine blk_drewN ?_ _ | refine blk_drew ?_ | refine blk_alloc ?_ _)); refine blk_far ?_ NB285_286.out _; (with_reducible repeat (first | refine blk_drewN ?_ _ | refine blk_drew ?_ | refine blk_alloc ?_ _)); refine blk_put (cs := #[.int .i64 ji49, .int .i64 0, .slice none 0 0, .slice none 0 0]) ?_ 3 _ rfl; (with_reducible repeat (first | refine blk_drewN ?_ _ | refine blk_drew ?_ | refine blk_alloc ?_ _)); refine blk_put (cs := #[.int .i64 ji49, .int .i64 0, .slice none 0 0, .slice none 0 0]) ?_ 2 _ rfl; (with_reducible repeat (first | refine blk_drewN ?_ _ | refine blk_drew ?_ | refine blk_alloc ?_ _)); refine blk_put (cs := #[.int .i64 ji49, .int .i64 0, .slice none 0 0, .slice none 0 0]) ?_ 1 _ rfl; (with_reducible repeat (first | refine blk_drewN ?_ _ | refine blk_drew ?_ | refine blk_alloc ?_ _)); refine blk_put (cs := #[.int .i64 0, .int .i64 0, .slice none 0 0, .slice none 0 0]) ?_ 0 _ rfl; (with_reducible repeat (first | refine blk_drewN ?_ _ | refine blk_drew ?_ | refine blk_alloc ?_ _)); exact BK285.out) Try.underlying27 rfl (by kernel_rfl) rfl (by (with_reducible repeat (first | refine blk_drewN ?_ _ | refine blk_drew ?_ | refine blk_alloc ?_ _)); refine blk_put (cs := #[.bool (decide ((wrap64 (t296 + a3)) ≤ a0_1)), .int .i64 (wrap64 (a0_1 - x12_80)), .int .i64 x298002_80, .int .i64 0]) ?_ 3 _ rfl; (with_reducible repeat (first | refine blk_drewN ?_ _ | refine blk_drew ?_ | refine blk_alloc ?_ _)); refine blk_put (cs := #[.bool (decide ((wrap64 (t296 + a3)) ≤ a0_1)), .int .i64 (wrap64 (a0_1 - x12_80)), .int .i64 0, .int .i64 0]) ?_ 2 _ rfl; (with_reducible repeat (first | refine blk_drewN ?_ _ | refine blk_drew ?_ | refine blk_alloc ?_ _)); refine blk_put (cs := #[.bool (decide ((wrap64 (t296 + a3)) ≤ a0_1)), .int .i64 0, .int .i64 0, .int .i64 0]) ?_ 1 _ rfl; (with_reducible repeat (first | refine blk_drewN ?_ _ | refine blk_drew ?_ | refine blk_alloc ?_ _)); refine blk_put (cs := #[.bool false, .int .i64 0, .int .i64 0, .int .i64 0]) ?_ 0 _ rfl; (with_reducible repeat (first | refine blk_drewN ?_ _ | refine blk_drew ?_ | refine blk_alloc ?_ _)); refine blk_far ?_ NB286_285.out _; (with_reducible repeat (first | refine blk_drewN ?_ _ | refine blk_drew ?_ | refine blk_alloc ?_ _)); refine blk_far ?_ NB286_285.out _; (with_reducible repeat (first | refine blk_drewN ?_ _ | refine blk_drew ?_ | refine blk_alloc ?_ _)); refine blk_far ?_ NB286_285.out _; (with_reducible repeat (first | refine blk_drewN ?_ _ | refine blk_drew ?_ | refine blk_alloc ?_ _)); refine blk_far ?_ NB286_285.out _; (with_reducible repeat (first | refine blk_drewN ?_ _ | refine blk_drew ?_ | refine blk_alloc ?_ _)); exact BK286.out) Try.underlying32 rfl (by kernel_rfl)) rfl ?_
         exact ⟨_, _, by first | (with_reducible rfl) | (simp only [← hji49]; with_reducible rfl) | (simp only [← hji49]; done) | rfl | (simp [errW_none, errW_some] <;> rfl) | (simp only [← hji49]; first | rfl | (simp [errW_none, errW_some] <;> rfl)) | (simp [*, errW_none, errW_some] <;> rfl), Kd.V_nil _ _ _ _ _, Kd.V_mono (Kd.R_V (by (with_reducible repeat (first | apply Kd.R_alloc | apply Kd.R_drewN | apply Kd.R_drew)); exact Kd.R_mono (Kd.R_far (p := ⟨gb286, 3, none⟩) (Kd.R_far (p := ⟨gb286, 2, none⟩) (Kd.R_far (p := ⟨gb286, 1, none⟩) (Kd.R_far (p := ⟨gb286, 0, none⟩) (Kd.R_far (p := ⟨gb285, 3, none⟩) (Kd.R_far (p := ⟨gb285, 2, none⟩) (Kd.R_far (p := ⟨gb285, 1, none⟩) (Kd.R_far (p := ⟨gb285, 0, none⟩) (Kd.R_types (Kd.R_types HO_291003.out BK285.out (by decide)) BK286.out (by decide)) (fun _ hk => hk.1.2) (.int .i64 ji49)) (fun _ hk => hk.1.2) (.int .i64 0)) (fun _ hk => hk.1.2) (.slice none 0 0)) (fun _ hk => hk.1.2) (.slice Ao184 x291003_80.length co184)) (fun _ hk => hk.2) (.bool (decide ((wrap64 (t296 + a3)) ≤ a0_1)))) (fun _ hk => hk.2) (.int .i64 (wrap64 (a0_1 - x12_80)))) (fun _ hk => hk.2) (.int .i64 x298002_80)) (fun _ hk => hk.2) (.int .i64 t305)) (fun _ hk => hk.1.1))) (fun k_ hk => by first | exact ⟨(.inr (hk.1)), hk.2⟩ | exact (.inr (hk))), bl HB⟩

end Go.Proofs.Ytempbjcmhillgaa.Q
