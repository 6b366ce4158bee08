-- Laid by wip/tools/hprint.py, a program of this repo, over the kit's print; not a text of print.sh.
import Derived.Test.YtpeljhmbaibjcaaQ0
import Derived.Test.YtpeljhmbaibjcaaQ19
import Derived.Test.YtpeljhmbaibjcaaQ22
import Derived.Test.YtpeljhmbaibjcaaQ23
import Derived.Test.YtpeljhmbaibjcaaQ27
namespace Go.Proofs.Ytpeljhmbaibjcaa.Q
open Go.RowKit Go.Proofs.Ytpeljhmbaibjcaa.Zip Go.Proofs.YtpeljhmbaibjcaaW.PrintWords Go.Proofs.YtpeljhmbaibjcaaW.PrintLast Go.Proofs.YtpeljhmbaibjcaaW.PrintMore
attribute [local go_sem] max2_int min2_int max_two min_two max_three min_three max_four min_four   -- for this text's walks alone
set_option linter.unusedVariables false
set_option linter.unusedSimpArgs false

/-! ### sandglasslaw10_GcraRate: function 6 -/
mutual
def sandglasslaw10_GcraRate.j0 : Nat → List (S45) → Bool → Int → Int → Int → Int → Option (Bool)
  | 0, _, _, _, _, _, _ => none
  | k + 1, x1, x26, x423000, x423001, x423002, x423003 => if x26 = true then ((sandglasslaw10_live.f k).bind fun t424 => (some t424)) else (sandglasslaw10_GcraRate.l0 k x1 0 ([] : List Int) ([] : List Int) 0 x423000 x423001 x423002 x423003 0 0 ([] : List Int) ([] : List (S57)))
def sandglasslaw10_GcraRate.l0 : Nat → List (S45) → Int → List Int → List Int → Int → Int → Int → Int → Int → Int → Int → List Int → List (S57) → Option (Bool)
  | 0, _, _, _, _, _, _, _, _, _, _, _, _, _ => none
  | k + 1, x1, x6, x7, x8, x9, x423000, x423001, x423002, x423003, x426000, x426001, x426002, x426003 => if x9 < (x1.length : Int) then (if 0 ≤ x9 then (if ((rd_T45 x1 x9).f0) < 0 then (sandglasslaw10_GcraRate.j2 k x1 x6 x7 x8 x9 true x423000 x423001 x423002 x423003 x426000 x426001 x426002 x426003) else (if ((rd_T45 x1 x9).f0) > 1048576 then (sandglasslaw10_GcraRate.j2 k x1 x6 x7 x8 x9 true x423000 x423001 x423002 x423003 x426000 x426001 x426002 x426003) else ((sandglassref09_Weighs.f ((rd_T45 x1 x9).f1)).bind fun t429 => (sandglasslaw10_GcraRate.j2 k x1 x6 x7 x8 x9 (!t429) x423000 x423001 x423002 x423003 x426000 x426001 x426002 x426003)))) else (none)) else ((sandglasslaw10_live.f k).bind fun t459 => (some t459))
def sandglasslaw10_GcraRate.j2 : Nat → List (S45) → Int → List Int → List Int → Int → Bool → Int → Int → Int → Int → Int → Int → List Int → List (S57) → Option (Bool)
  | 0, _, _, _, _, _, _, _, _, _, _, _, _, _, _ => none
  | k + 1, x1, x6, x7, x8, x9, x57, x423000, x423001, x423002, x423003, x426000, x426001, x426002, x426003 => if x57 = true then ((sandglasslaw10_live.f k).bind fun t430 => (some t430)) else (if 0 ≤ x9 then (if x9 < (x1.length : Int) then ((gcra_Ask.f k x423000 x423001 x423002 x423003 x426000 x426001 x426002 x426003 (wrap64 (x6 + ((rd_T45 x1 x9).f0))) ((rd_T45 x1 x9).f1)).bind fun bt433 => (if x7.length < 17592186044416 then ((some (x7 ++ [wrap64 (x6 + ((rd_T45 x1 x9).f0))] : List Int)).bind fun y447 => (if bt433.2.2.2.2.1 = true then (if x8.length < 17592186044416 then (sandglasslaw10_GcraRate.j3 k x1 (wrap64 (x6 + ((rd_T45 x1 x9).f0))) y447 (x8 ++ [(rd_T45 x1 x9).f1]) x9 x423000 x423001 x423002 x423003 bt433.1 bt433.2.1 bt433.2.2.1 bt433.2.2.2.1) else (none)) else (if x8.length < 17592186044416 then (sandglasslaw10_GcraRate.j3 k x1 (wrap64 (x6 + ((rd_T45 x1 x9).f0))) y447 (x8 ++ [0]) x9 x423000 x423001 x423002 x423003 bt433.1 bt433.2.1 bt433.2.2.1 bt433.2.2.2.1) else (none)))) else (none))) else (none)) else (none))
def sandglasslaw10_GcraRate.j3 : Nat → List (S45) → Int → List Int → List Int → Int → Int → Int → Int → Int → Int → Int → List Int → List (S57) → Option (Bool)
  | 0, _, _, _, _, _, _, _, _, _, _, _, _, _ => none
  | k + 1, x1, x6, x7, x8, x9, x423000, x423001, x423002, x423003, x426000, x426001, x426002, x426003 => sandglasslaw10_GcraRate.l1 k x1 x6 x7 x8 x9 0 x9 x423000 x423001 x423002 x423003 x426000 x426001 x426002 x426003
def sandglasslaw10_GcraRate.l1 : Nat → List (S45) → Int → List Int → List Int → Int → Int → Int → Int → Int → Int → Int → Int → Int → List Int → List (S57) → Option (Bool)
  | 0, _, _, _, _, _, _, _, _, _, _, _, _, _, _, _ => none
  | k + 1, x1, x6, x7, x8, x9, x12, x13, x423000, x423001, x423002, x423003, x426000, x426001, x426002, x426003 => if x13 ≥ 0 then (if 0 ≤ x13 then (if x13 < (x8.length : Int) then (if x13 < (x7.length : Int) then (if (wrap64 ((wrap64 (x12 + (rd x8 x13))) * x423002)) > (wrap64 ((wrap64 (x423001 * x423002)) + (wrap64 (x423001 * (wrap64 (x6 - (rd x7 x13))))))) then (none) else (sandglasslaw10_GcraRate.l1 k x1 x6 x7 x8 x9 (wrap64 (x12 + (rd x8 x13))) (wrap64 (x13 - 1)) x423000 x423001 x423002 x423003 x426000 x426001 x426002 x426003)) else (none)) else (none)) else (none)) else (sandglasslaw10_GcraRate.l0 k x1 x6 x7 x8 (wrap64 (x9 + 1)) x423000 x423001 x423002 x423003 x426000 x426001 x426002 x426003)
end
def sandglasslaw10_GcraRate.f (k : Nat) (a0_0 : Int) (a0_1 : Int) (a0_2 : Int) (a0_3 : Int) (l1 : List (S45)) : Option (Bool) := if (l1.length : Int) > 40 then (sandglasslaw10_GcraRate.j0 k l1 true a0_0 a0_1 a0_2 a0_3) else ((sandglassref09_Check.f k a0_0 a0_1 a0_2 a0_3).bind fun t423 => (if t423 = 0 then (sandglasslaw10_GcraRate.j0 k l1 (a0_0 != 1) a0_0 a0_1 a0_2 a0_3) else (sandglasslaw10_GcraRate.j0 k l1 true a0_0 a0_1 a0_2 a0_3)))
theorem sandglasslaw10_GcraRate.mono_l : ∀ k, (∀ y0 y1 y2 y3 y4 y5, LeO (sandglasslaw10_GcraRate.j0 k y0 y1 y2 y3 y4 y5) (sandglasslaw10_GcraRate.j0 (k + 1) y0 y1 y2 y3 y4 y5)) ∧ (∀ y0 y1 y2 y3 y4 y5 y6 y7 y8 y9 y10 y11 y12, LeO (sandglasslaw10_GcraRate.l0 k y0 y1 y2 y3 y4 y5 y6 y7 y8 y9 y10 y11 y12) (sandglasslaw10_GcraRate.l0 (k + 1) y0 y1 y2 y3 y4 y5 y6 y7 y8 y9 y10 y11 y12)) ∧ (∀ y0 y1 y2 y3 y4 y5 y6 y7 y8 y9 y10 y11 y12 y13, LeO (sandglasslaw10_GcraRate.j2 k y0 y1 y2 y3 y4 y5 y6 y7 y8 y9 y10 y11 y12 y13) (sandglasslaw10_GcraRate.j2 (k + 1) y0 y1 y2 y3 y4 y5 y6 y7 y8 y9 y10 y11 y12 y13)) ∧ (∀ y0 y1 y2 y3 y4 y5 y6 y7 y8 y9 y10 y11 y12, LeO (sandglasslaw10_GcraRate.j3 k y0 y1 y2 y3 y4 y5 y6 y7 y8 y9 y10 y11 y12) (sandglasslaw10_GcraRate.j3 (k + 1) y0 y1 y2 y3 y4 y5 y6 y7 y8 y9 y10 y11 y12)) ∧ (∀ y0 y1 y2 y3 y4 y5 y6 y7 y8 y9 y10 y11 y12 y13 y14, LeO (sandglasslaw10_GcraRate.l1 k y0 y1 y2 y3 y4 y5 y6 y7 y8 y9 y10 y11 y12 y13 y14) (sandglasslaw10_GcraRate.l1 (k + 1) y0 y1 y2 y3 y4 y5 y6 y7 y8 y9 y10 y11 y12 y13 y14))
  | 0 => ⟨fun _ _ _ _ _ _ r h => by simp [sandglasslaw10_GcraRate.j0] at h, fun _ _ _ _ _ _ _ _ _ _ _ _ _ r h => by simp [sandglasslaw10_GcraRate.l0] at h, fun _ _ _ _ _ _ _ _ _ _ _ _ _ _ r h => by simp [sandglasslaw10_GcraRate.j2] at h, fun _ _ _ _ _ _ _ _ _ _ _ _ _ r h => by simp [sandglasslaw10_GcraRate.j3] at h, fun _ _ _ _ _ _ _ _ _ _ _ _ _ _ _ r h => by simp [sandglasslaw10_GcraRate.l1] at h⟩
  | k + 1 => by
    obtain ⟨ih0, ih1, ih2, ih3, ih4⟩ := sandglasslaw10_GcraRate.mono_l k
    refine ⟨?_, ?_, ?_, ?_, ?_⟩
    · intro y0 y1 y2 y3 y4 y5
      unfold sandglasslaw10_GcraRate.j0
      repeat' first
      | (with_reducible exact ih0 _ _ _ _ _ _)
      | (with_reducible exact ih1 _ _ _ _ _ _ _ _ _ _ _ _ _)
      | (with_reducible exact ih2 _ _ _ _ _ _ _ _ _ _ _ _ _ _)
      | (with_reducible exact ih3 _ _ _ _ _ _ _ _ _ _ _ _ _)
      | (with_reducible exact ih4 _ _ _ _ _ _ _ _ _ _ _ _ _ _ _)
      | (with_reducible exact gcra_Ask.mono _ _ _ _ _ _ _ _ _ _ _)
      | (with_reducible exact sandglasslaw10_live.mono _)
      | (with_reducible exact sandglassref09_Check.mono _ _ _ _ _)
      | (with_reducible exact LeO.refl _)
      | (with_reducible exact LeO.none _)
      | (with_reducible refine LeO.ite ?_ ?_)
      | (with_reducible refine LeO.bind ?_ (fun _ => ?_))
      | exact ih0 _ _ _ _ _ _
      | exact ih1 _ _ _ _ _ _ _ _ _ _ _ _ _
      | exact ih2 _ _ _ _ _ _ _ _ _ _ _ _ _ _
      | exact ih3 _ _ _ _ _ _ _ _ _ _ _ _ _
      | exact ih4 _ _ _ _ _ _ _ _ _ _ _ _ _ _ _
      | exact gcra_Ask.mono _ _ _ _ _ _ _ _ _ _ _
      | exact sandglasslaw10_live.mono _
      | exact sandglassref09_Check.mono _ _ _ _ _
      | exact LeO.none _
      | refine LeO.ite ?_ ?_
      | refine LeO.bind ?_ (fun _ => ?_)
    · intro y0 y1 y2 y3 y4 y5 y6 y7 y8 y9 y10 y11 y12
      unfold sandglasslaw10_GcraRate.l0
      repeat' first
      | (with_reducible exact ih0 _ _ _ _ _ _)
      | (with_reducible exact ih1 _ _ _ _ _ _ _ _ _ _ _ _ _)
      | (with_reducible exact ih2 _ _ _ _ _ _ _ _ _ _ _ _ _ _)
      | (with_reducible exact ih3 _ _ _ _ _ _ _ _ _ _ _ _ _)
      | (with_reducible exact ih4 _ _ _ _ _ _ _ _ _ _ _ _ _ _ _)
      | (with_reducible exact gcra_Ask.mono _ _ _ _ _ _ _ _ _ _ _)
      | (with_reducible exact sandglasslaw10_live.mono _)
      | (with_reducible exact sandglassref09_Check.mono _ _ _ _ _)
      | (with_reducible exact LeO.refl _)
      | (with_reducible exact LeO.none _)
      | (with_reducible refine LeO.ite ?_ ?_)
      | (with_reducible refine LeO.bind ?_ (fun _ => ?_))
      | exact ih0 _ _ _ _ _ _
      | exact ih1 _ _ _ _ _ _ _ _ _ _ _ _ _
      | exact ih2 _ _ _ _ _ _ _ _ _ _ _ _ _ _
      | exact ih3 _ _ _ _ _ _ _ _ _ _ _ _ _
      | exact ih4 _ _ _ _ _ _ _ _ _ _ _ _ _ _ _
      | exact gcra_Ask.mono _ _ _ _ _ _ _ _ _ _ _
      | exact sandglasslaw10_live.mono _
      | exact sandglassref09_Check.mono _ _ _ _ _
      | exact LeO.none _
      | refine LeO.ite ?_ ?_
      | refine LeO.bind ?_ (fun _ => ?_)
    · intro y0 y1 y2 y3 y4 y5 y6 y7 y8 y9 y10 y11 y12 y13
      unfold sandglasslaw10_GcraRate.j2
      repeat' first
      | (with_reducible exact ih0 _ _ _ _ _ _)
      | (with_reducible exact ih1 _ _ _ _ _ _ _ _ _ _ _ _ _)
      | (with_reducible exact ih2 _ _ _ _ _ _ _ _ _ _ _ _ _ _)
      | (with_reducible exact ih3 _ _ _ _ _ _ _ _ _ _ _ _ _)
      | (with_reducible exact ih4 _ _ _ _ _ _ _ _ _ _ _ _ _ _ _)
      | (with_reducible exact gcra_Ask.mono _ _ _ _ _ _ _ _ _ _ _)
      | (with_reducible exact sandglasslaw10_live.mono _)
      | (with_reducible exact sandglassref09_Check.mono _ _ _ _ _)
      | (with_reducible exact LeO.refl _)
      | (with_reducible exact LeO.none _)
      | (with_reducible refine LeO.ite ?_ ?_)
      | (with_reducible refine LeO.bind ?_ (fun _ => ?_))
      | exact ih0 _ _ _ _ _ _
      | exact ih1 _ _ _ _ _ _ _ _ _ _ _ _ _
      | exact ih2 _ _ _ _ _ _ _ _ _ _ _ _ _ _
      | exact ih3 _ _ _ _ _ _ _ _ _ _ _ _ _
      | exact ih4 _ _ _ _ _ _ _ _ _ _ _ _ _ _ _
      | exact gcra_Ask.mono _ _ _ _ _ _ _ _ _ _ _
      | exact sandglasslaw10_live.mono _
      | exact sandglassref09_Check.mono _ _ _ _ _
      | exact LeO.none _
      | refine LeO.ite ?_ ?_
      | refine LeO.bind ?_ (fun _ => ?_)
    · intro y0 y1 y2 y3 y4 y5 y6 y7 y8 y9 y10 y11 y12
      unfold sandglasslaw10_GcraRate.j3
      repeat' first
      | (with_reducible exact ih0 _ _ _ _ _ _)
      | (with_reducible exact ih1 _ _ _ _ _ _ _ _ _ _ _ _ _)
      | (with_reducible exact ih2 _ _ _ _ _ _ _ _ _ _ _ _ _ _)
      | (with_reducible exact ih3 _ _ _ _ _ _ _ _ _ _ _ _ _)
      | (with_reducible exact ih4 _ _ _ _ _ _ _ _ _ _ _ _ _ _ _)
      | (with_reducible exact gcra_Ask.mono _ _ _ _ _ _ _ _ _ _ _)
      | (with_reducible exact sandglasslaw10_live.mono _)
      | (with_reducible exact sandglassref09_Check.mono _ _ _ _ _)
      | (with_reducible exact LeO.refl _)
      | (with_reducible exact LeO.none _)
      | (with_reducible refine LeO.ite ?_ ?_)
      | (with_reducible refine LeO.bind ?_ (fun _ => ?_))
      | exact ih0 _ _ _ _ _ _
      | exact ih1 _ _ _ _ _ _ _ _ _ _ _ _ _
      | exact ih2 _ _ _ _ _ _ _ _ _ _ _ _ _ _
      | exact ih3 _ _ _ _ _ _ _ _ _ _ _ _ _
      | exact ih4 _ _ _ _ _ _ _ _ _ _ _ _ _ _ _
      | exact gcra_Ask.mono _ _ _ _ _ _ _ _ _ _ _
      | exact sandglasslaw10_live.mono _
      | exact sandglassref09_Check.mono _ _ _ _ _
      | exact LeO.none _
      | refine LeO.ite ?_ ?_
      | refine LeO.bind ?_ (fun _ => ?_)
    · intro y0 y1 y2 y3 y4 y5 y6 y7 y8 y9 y10 y11 y12 y13 y14
      unfold sandglasslaw10_GcraRate.l1
      repeat' first
      | (with_reducible exact ih0 _ _ _ _ _ _)
      | (with_reducible exact ih1 _ _ _ _ _ _ _ _ _ _ _ _ _)
      | (with_reducible exact ih2 _ _ _ _ _ _ _ _ _ _ _ _ _ _)
      | (with_reducible exact ih3 _ _ _ _ _ _ _ _ _ _ _ _ _)
      | (with_reducible exact ih4 _ _ _ _ _ _ _ _ _ _ _ _ _ _ _)
      | (with_reducible exact gcra_Ask.mono _ _ _ _ _ _ _ _ _ _ _)
      | (with_reducible exact sandglasslaw10_live.mono _)
      | (with_reducible exact sandglassref09_Check.mono _ _ _ _ _)
      | (with_reducible exact LeO.refl _)
      | (with_reducible exact LeO.none _)
      | (with_reducible refine LeO.ite ?_ ?_)
      | (with_reducible refine LeO.bind ?_ (fun _ => ?_))
      | exact ih0 _ _ _ _ _ _
      | exact ih1 _ _ _ _ _ _ _ _ _ _ _ _ _
      | exact ih2 _ _ _ _ _ _ _ _ _ _ _ _ _ _
      | exact ih3 _ _ _ _ _ _ _ _ _ _ _ _ _
      | exact ih4 _ _ _ _ _ _ _ _ _ _ _ _ _ _ _
      | exact gcra_Ask.mono _ _ _ _ _ _ _ _ _ _ _
      | exact sandglasslaw10_live.mono _
      | exact sandglassref09_Check.mono _ _ _ _ _
      | exact LeO.none _
      | refine LeO.ite ?_ ?_
      | refine LeO.bind ?_ (fun _ => ?_)
theorem sandglasslaw10_GcraRate.mono : ∀ a0 a1 a2 a3 a4 k, LeO (sandglasslaw10_GcraRate.f k a0 a1 a2 a3 a4) (sandglasslaw10_GcraRate.f (k + 1) a0 a1 a2 a3 a4) := by
  intro a0 a1 a2 a3 a4 k
  obtain ⟨ih0, ih1, ih2, ih3, ih4⟩ := sandglasslaw10_GcraRate.mono_l k
  unfold sandglasslaw10_GcraRate.f
  repeat' first
      | (with_reducible exact ih0 _ _ _ _ _ _)
      | (with_reducible exact ih1 _ _ _ _ _ _ _ _ _ _ _ _ _)
      | (with_reducible exact ih2 _ _ _ _ _ _ _ _ _ _ _ _ _ _)
      | (with_reducible exact ih3 _ _ _ _ _ _ _ _ _ _ _ _ _)
      | (with_reducible exact ih4 _ _ _ _ _ _ _ _ _ _ _ _ _ _ _)
      | (with_reducible exact gcra_Ask.mono _ _ _ _ _ _ _ _ _ _ _)
      | (with_reducible exact sandglasslaw10_live.mono _)
      | (with_reducible exact sandglassref09_Check.mono _ _ _ _ _)
      | (with_reducible exact LeO.refl _)
      | (with_reducible exact LeO.none _)
      | (with_reducible refine LeO.ite ?_ ?_)
      | (with_reducible refine LeO.bind ?_ (fun _ => ?_))
      | exact ih0 _ _ _ _ _ _
      | exact ih1 _ _ _ _ _ _ _ _ _ _ _ _ _
      | exact ih2 _ _ _ _ _ _ _ _ _ _ _ _ _ _
      | exact ih3 _ _ _ _ _ _ _ _ _ _ _ _ _
      | exact ih4 _ _ _ _ _ _ _ _ _ _ _ _ _ _ _
      | exact gcra_Ask.mono _ _ _ _ _ _ _ _ _ _ _
      | exact sandglasslaw10_live.mono _
      | exact sandglassref09_Check.mono _ _ _ _ _
      | exact LeO.none _
      | refine LeO.ite ?_ ?_
      | refine LeO.bind ?_ (fun _ => ?_)
def sandglasslaw10_GcraRate.T13 : Bool × List (List Nat × List Nat) := (true, [([], []), ([], []), ([], []), ([], []), ([], []), ([3, 4], [3, 4]), ([5], [5]), ([6], [6]), ([0, 1, 2, 7], [0, 1, 2, 7]), ([8], [8]), ([9], [9]), ([9], [9]), ([], []), ([], []), ([12, 10, 8, 0, 1, 2, 3, 4, 5, 6, 7, 8, 9, 10, 12, 13], [10, 12]), ([13, 11, 14, 0, 1, 2, 3, 4, 5, 6, 7, 8, 9, 10, 11, 12, 13, 14], [11, 13])])
def sandglasslaw10_GcraRate.B13 : List Nat := [0, 0, 0, 0, 0, 24, 56, 120, 255, 511, 1023, 1023, 0, 0, 14335, 32767]
theorem sandglasslaw10_GcraRate.tab13 : rtab .any (opsOf Try.f6 13) = sandglasslaw10_GcraRate.T13 := by kernel_rfl
theorem sandglasslaw10_GcraRate.bits13 : waitsOk sandglasslaw10_GcraRate.T13.2 sandglasslaw10_GcraRate.B13 = true := by kernel_rfl
def sandglasslaw10_GcraRate.T24 : Bool × List (List Nat × List Nat) := (true, [([], []), ([], []), ([1], [1]), ([0, 2], [0, 2]), ([], []), ([4], [4]), ([], []), ([6], [6]), ([5, 7], [5, 7]), ([], []), ([9], [9]), ([], []), ([], []), ([], []), ([12, 13], [12, 13]), ([14], [14]), ([11, 15], [11, 15]), ([10, 16], [10, 16]), ([8, 17], [8, 17]), ([3, 18], [3, 18])])
def sandglasslaw10_GcraRate.B24 : List Nat := [0, 0, 2, 7, 0, 16, 0, 64, 240, 0, 512, 0, 0, 0, 12288, 28672, 63488, 130560, 262128, 524287]
theorem sandglasslaw10_GcraRate.tab24 : rtab .any (opsOf Try.f6 24) = sandglasslaw10_GcraRate.T24 := by kernel_rfl
theorem sandglasslaw10_GcraRate.bits24 : waitsOk sandglasslaw10_GcraRate.T24.2 sandglasslaw10_GcraRate.B24 = true := by kernel_rfl
set_option maxHeartbeats 8000000 in
set_option maxRecDepth 100000 in
theorem sandglasslaw10_GcraRate.calls (k : Nat) (a0_0 : Int) (a0_1 : Int) (a0_2 : Int) (a0_3 : Int) (A1 : Option Addr) (c1 : Nat) (l1 : List (S45)) (r : Bool) (w : World) (hr1 : Kd.C k45 w A1 l1.length l1) (hc1 : l1.length ≤ c1) (h : sandglasslaw10_GcraRate.f k a0_0 a0_1 a0_2 a0_3 l1 = some r) :
    Calls Try.prog 6 #[.agg #[.int .i64 a0_0, .int .i64 a0_1, .int .i64 a0_2, .int .i64 a0_3], .slice A1 l1.length c1] w fun e w' => e = .returned (.bool r) ∧ Below w.heap.size w w' := by
  have hu23 := Try.underlying23
  have hu27 := Try.underlying27
  have hu32 := Try.underlying32
  have HR1 := Aside0.mk hr1
  have HC1 := Aside0.mk hc1
  clear hr1 hc1
  have HB := Aside0.mk (Below.refl w.heap.size w)
  have H : (if (l1.length : Int) > 40 then (sandglasslaw10_GcraRate.j0 k l1 true a0_0 a0_1 a0_2 a0_3) else ((sandglassref09_Check.f k a0_0 a0_1 a0_2 a0_3).bind fun t423 => (if t423 = 0 then (sandglasslaw10_GcraRate.j0 k l1 (a0_0 != 1) a0_0 a0_1 a0_2 a0_3) else (sandglasslaw10_GcraRate.j0 k l1 true a0_0 a0_1 a0_2 a0_3)))) = some r := h
  clear h
  have HC3 := Aside0.mk H
  clear H
  go_enter Try.func6, Try.ntmps6
  go_upto_region 1 with (first | ((with_reducible refine gate_dst (N := 2) rfl ?_); refine box_event ?hg (N := 2) ?hd (cs := #[.int .i64 a0_0, .int .i64 a0_1, .int .i64 a0_2, .int .i64 a0_3]) (t := 23) ?hr ?_; (case hd => rfl); (case hg => rfl); (case hr => first | (go_simp; done) | (go_simp; rfl)); intro gb422 hg w4 hbox hb; have BK422 := Aside0.mk (hbox); have GW422 := Aside0.mk ((by rw [hg]; exact (below_size (bl HB)) : w.heap.size ≤ gb422)); have GE422 := Aside0.mk ((by rw [hg]; exact (below_size (bl HB)) : w.heap.size ≤ gb422)); replace HB := Aside0.mk (below_step (bl HB) hb); clear hb hbox hg))
  (try simp only [Act.put, List.setIfInBounds_toArray, List.set_cons_zero, List.set_cons_succ])
  go_cut [26] (fun v26 wc => ∃ (kq : Nat) (x26_2 : Bool), v26 = .bool x26_2 ∧ Aside0 (sandglasslaw10_GcraRate.j0 kq l1 x26_2 a0_0 a0_1 a0_2 a0_3 = some r) ∧ Aside0 (kq ≤ k) ∧ Aside0 (wc.heap[gb422]? = some (.cells #[.int .i64 a0_0, .int .i64 a0_1, .int .i64 a0_2, .int .i64 a0_3] 23 (0, 0))) ∧ Aside0 (Below w.heap.size w wc))
  case first =>
    have H := HC3.out
    clear HC3
    by_cases c5 : (l1.length : Int) > 40
    · rw [if_pos c5] at H
      have c5b0 : decide (40 < (l1.length : Int)) = true := decide_eq_true c5
      have c5b1 : decide (40 < l1.length) = true := decide_eq_true (by omega)
      clear c5
      (first | rw [c5b0] | (simp only [i64_w, i32_w]; rw [c5b0]) | skip)
      have H' := Aside0.mk H
      clear H
      go_wp2
      go_meet
      case rel => exact ⟨_, (true), (by first | (with_reducible rfl) | rfl | (simp; done) | (simp [*]; done)), H', ⟨by first | omega | exact Nat.le_refl _⟩, ⟨bo BK422⟩, ⟨bl HB⟩⟩
    · rw [if_neg c5] at H
      have c5b0 : decide (40 < (l1.length : Int)) = false := decide_eq_false c5
      have c5b1 : decide (40 < l1.length) = false := decide_eq_false (by omega)
      clear c5
      (first | rw [c5b0] | (simp only [i64_w, i32_w]; rw [c5b0]) | skip)
      replace H := Option.bind_eq_some_iff.mp H
      obtain ⟨t423, A60, H⟩ := H
      have A6 := Aside0.mk A60
      clear A60
      by_cases c7 : t423 = 0
      · rw [if_pos c7] at H
        have c7b0 : (t423 == 0) = true := beq_iff_eq.mpr c7
        have c7b1 : (t423 != 0) = false := bne_eq_false_iff_eq.mpr c7
        clear c7
        have H' := Aside0.mk H
        clear H
        obtain ⟨hcz8_0, hcz8_1, hcz8_2, hcz8_3⟩ := ce4 BK422
        obtain ⟨hfz8_0, hfz8_1, hfz8_2, hfz8_3⟩ := fr4 BK422
        go_wp2_with (first | (go_at_call 20; (with_reducible refine (sandglassref09_Check.calls k a0_0 a0_1 a0_2 a0_3 t423 _ A6.out).mono ?_); rintro e w9 ⟨rfl, hb⟩; replace BK422 := Aside0.mk (blk_below (bo BK422) hb); replace HB := Aside0.mk (below_step (bl HB) hb); (try clear hb); (try clear hb2); (try clear hk); (try clear hi); obtain ⟨hcz10_0, hcz10_1, hcz10_2, hcz10_3⟩ := ce4 BK422; obtain ⟨hfz10_0, hfz10_1, hfz10_2, hfz10_3⟩ := fr4 BK422))
        go_meet
        case rel => exact ⟨_, ((a0_0 != 1)), (by first | (with_reducible rfl) | rfl | (simp; done) | (simp [*]; done)), H', ⟨by first | omega | exact Nat.le_refl _⟩, ⟨bo BK422⟩, ⟨bl HB⟩⟩
      · rw [if_neg c7] at H
        have c7b0 : (t423 == 0) = false := beq_eq_false_iff_ne.mpr c7
        have c7b1 : (t423 != 0) = true := bne_iff_ne.mpr c7
        have H' := Aside0.mk H
        clear H
        obtain ⟨hcz11_0, hcz11_1, hcz11_2, hcz11_3⟩ := ce4 BK422
        obtain ⟨hfz11_0, hfz11_1, hfz11_2, hfz11_3⟩ := fr4 BK422
        go_wp2_with (first | (go_at_call 20; (with_reducible refine (sandglassref09_Check.calls k a0_0 a0_1 a0_2 a0_3 t423 _ A6.out).mono ?_); rintro e w12 ⟨rfl, hb⟩; replace BK422 := Aside0.mk (blk_below (bo BK422) hb); replace HB := Aside0.mk (below_step (bl HB) hb); (try clear hb); (try clear hb2); (try clear hk); (try clear hi)))
        go_meet
        case rel => exact ⟨_, (true), (by first | (with_reducible rfl) | rfl | (simp; done) | (simp [*]; done)), H', ⟨by first | omega | exact Nat.le_refl _⟩, ⟨bo BK422⟩, ⟨bl HB⟩⟩
  case rest =>
    clear HC3
    try clear c1
    try clear p2
    try clear c5
    try clear c5b0
    try clear c5b1
    try clear c6
    try clear c7
    try clear c7b0
    try clear c7b1
    try clear hcz10_0
    try clear hcz10_1
    try clear hcz10_2
    try clear hcz10_3
    try clear hcz11_0
    try clear hcz11_1
    try clear hcz11_2
    try clear hcz11_3
    try clear hcz8_0
    try clear hcz8_1
    try clear hcz8_2
    try clear hcz8_3
    try clear hfz10_0
    try clear hfz10_1
    try clear hfz10_2
    try clear hfz10_3
    try clear hfz11_0
    try clear hfz11_1
    try clear hfz11_2
    try clear hfz11_3
    try clear hfz8_0
    try clear hfz8_1
    try clear hfz8_2
    try clear hfz8_3
    obtain ⟨kq, x26_2, rfl, HA, HJ2, BK422, HB⟩ := hcut
    cases kq with
    | zero => exact absurd HA.out (by simp [sandglasslaw10_GcraRate.j0])
    | succ kj2 =>
      have H := HA.out
      clear HA
      simp only [sandglasslaw10_GcraRate.j0] at H
      by_cases c13 : x26_2 = true
      · subst c13
        rw [if_pos rfl] at H
        replace H := Option.bind_eq_some_iff.mp H
        obtain ⟨t424, A140, H⟩ := H
        have A14 := Aside0.mk A140
        clear A140
        obtain rfl := Option.some.inj H
        go_wp2_with (first | ((with_reducible refine gate_callee (f := 9) rfl ?_); refine goesL_ (some 27) rfl rfl Try.func9 (by kernel_rfl) rfl #[] rfl (by (try simp only [List.map_toArray, List.map_cons, List.map_nil]); first | done | rfl | (simp only [List.length_drop, List.length_take]; rfl)) ?_; (with_reducible refine (sandglasslaw10_live.calls kj2  t424 _ A14.out).mono ?_); rintro e w15 ⟨rfl, hb⟩; refine ⟨_, rfl, ?_⟩; replace BK422 := Aside0.mk (blk_below (bo BK422) hb); replace HB := Aside0.mk (below_step (bl HB) hb); (try clear hb); (try clear hb2); (try clear hk); (try clear hi)))
        go_ret
        exact ⟨by first | (with_reducible rfl) | rfl | (simp [errW_none, errW_some] <;> rfl) | (simp [*, errW_none, errW_some] <;> rfl), bl HB⟩
      · replace c13 := Bool.eq_false_iff.mpr c13
        subst c13
        rw [if_neg (show ¬ (false = true) by decide)] at H
        have H' := Aside0.mk H
        clear H
        go_wp2_with (first | ((with_reducible refine gate_dst (N := 5) rfl ?_); refine box_event ?hg (N := 5) ?hd (cs := #[.int .i64 0, .int .i64 0, .slice none 0 0, .slice none 0 0]) (t := 27) ?hr ?_; (case hd => rfl); (case hg => rfl); (case hr => first | (go_simp; done) | (go_simp; rfl)); intro gb425 hg w16 hbox hb; have BK425 := Aside0.mk (hbox); have GW425 := Aside0.mk ((by rw [hg]; exact (below_size (bl HB)) : w.heap.size ≤ gb425)); have GE425 := Aside0.mk ((by rw [hg]; exact (below_size (bl HB)) : w.heap.size ≤ gb425)); have NB422_425 := nb BK422 hg; have NB425_422 := bn BK422 hg; replace BK422 := Aside0.mk (blk_below (bo BK422) hb); replace HB := Aside0.mk (below_step (bl HB) hb); clear hb hbox hg; have hnb17 := NB425_422.out; have hnc17 := NB422_425.out; obtain ⟨hcz18_0, hcz18_1, hcz18_2, hcz18_3⟩ := ce4 BK425; obtain ⟨hfz18_0, hfz18_1, hfz18_2, hfz18_3⟩ := fr4 BK425) | ((with_reducible refine gate_store (t := 27) (p := 5) rfl ?_); refine store_event (t := 27) (p := 5) (v := ?vo_w19) (w1 := ((((w16.setCell ⟨gb425, 0, none⟩ (.int .i64 0)).setCell ⟨gb425, 1, none⟩ (.int .i64 0)).setCell ⟨gb425, 2, none⟩ (.slice none 0 0)).setCell ⟨gb425, 3, none⟩ (.slice none 0 0))) ?hg ?ho ?hn ?hr ?_; (case ho => rfl); (case hg => rfl); (case hn => rfl); (case hr => first | (go_simp; done) | (go_simp; rfl)); intro w19 hw; replace BK422 : Aside0 (w19.heap[gb422]? = some (.cells #[.int .i64 a0_0, .int .i64 a0_1, .int .i64 a0_2, .int .i64 a0_3] 23 (0, 0))) := ⟨(by rw [hw]; exact (by (with_reducible repeat (first | refine blk_drewN ?_ _ | refine blk_drew ?_ | refine blk_alloc ?_ _)); refine blk_far ?_ NB422_425.out _; (with_reducible repeat (first | refine blk_drewN ?_ _ | refine blk_drew ?_ | refine blk_alloc ?_ _)); refine blk_far ?_ NB422_425.out _; (with_reducible repeat (first | refine blk_drewN ?_ _ | refine blk_drew ?_ | refine blk_alloc ?_ _)); refine blk_far ?_ NB422_425.out _; (with_reducible repeat (first | refine blk_drewN ?_ _ | refine blk_drew ?_ | refine blk_alloc ?_ _)); refine blk_far ?_ NB422_425.out _; (with_reducible repeat (first | refine blk_drewN ?_ _ | refine blk_drew ?_ | refine blk_alloc ?_ _)); exact BK422.out))⟩; replace BK425 : Aside0 (w19.heap[gb425]? = some (.cells #[.int .i64 0, .int .i64 0, .slice none 0 0, .slice none 0 0] 27 (0, 0))) := ⟨(by rw [hw]; exact (by (with_reducible repeat (first | refine blk_drewN ?_ _ | refine blk_drew ?_ | refine blk_alloc ?_ _)); refine blk_put (cs := #[.int .i64 0, .int .i64 0, .slice none 0 0, .slice none 0 0]) ?_ 3 _ rfl; (with_reducible repeat (first | refine blk_drewN ?_ _ | refine blk_drew ?_ | refine blk_alloc ?_ _)); refine blk_put (cs := #[.int .i64 0, .int .i64 0, .slice none 0 0, .slice none 0 0]) ?_ 2 _ rfl; (with_reducible repeat (first | refine blk_drewN ?_ _ | refine blk_drew ?_ | refine blk_alloc ?_ _)); refine blk_put (cs := #[.int .i64 0, .int .i64 0, .slice none 0 0, .slice none 0 0]) ?_ 1 _ rfl; (with_reducible repeat (first | refine blk_drewN ?_ _ | refine blk_drew ?_ | refine blk_alloc ?_ _)); refine blk_put (cs := #[.int .i64 0, .int .i64 0, .slice none 0 0, .slice none 0 0]) ?_ 0 _ rfl; (with_reducible repeat (first | refine blk_drewN ?_ _ | refine blk_drew ?_ | refine blk_alloc ?_ _)); exact BK425.out))⟩; replace HB : Aside0 (Below w.heap.size w w19) := ⟨(by rw [hw]; exact (bl HB))⟩; clear hw))
        go_loopg [6, 7, 8, 9] kj2 (fun kq v6 v7 v8 v9 w' => ∃ (x6_2 : Int) (x7_2 : List Int) (x8_2 : List Int) (x9_2 : Int) (x426000_2 : Int) (x426001_2 : Int) (x426002_2 : List Int) (x426003_2 : List (S57)) (u426002 : Value) (u426003 : Value), v6 = .int .i64 x6_2 ∧ v9 = .int .i64 x9_2 ∧ Aside0 (sandglasslaw10_GcraRate.l0 kq l1 x6_2 x7_2 x8_2 x9_2 a0_0 a0_1 a0_2 a0_3 x426000_2 x426001_2 x426002_2 x426003_2 = some r) ∧ Aside0 (kq ≤ kj2) ∧ Aside0 (Kd.R (Kd.int .i64) 3 w' w.heap.size (fun k_ => some k_ ≠ (v8 : Value).ownBlock) v7 x7_2) ∧ Aside0 (Kd.R (Kd.int .i64) 3 w' w.heap.size (fun k_ => some k_ ≠ (v7 : Value).ownBlock) v8 x8_2) ∧ Aside0 (Kd.V (Kd.int .i64) 3 w' w.heap.size (fun k_ => some k_ ≠ (v7 : Value).ownBlock ∧ some k_ ≠ (v8 : Value).ownBlock ∧ k_ ≠ gb422 ∧ k_ ≠ gb425) u426002 x426002_2) ∧ Aside0 (Kd.V k57 57 w' w.heap.size (fun k_ => some k_ ≠ (v7 : Value).ownBlock ∧ some k_ ≠ (v8 : Value).ownBlock ∧ k_ ≠ gb422 ∧ k_ ≠ gb425) u426003 x426003_2) ∧ Aside0 (w'.heap[gb422]? = some (.cells #[.int .i64 a0_0, .int .i64 a0_1, .int .i64 a0_2, .int .i64 a0_3] 23 (0, 0))) ∧ Aside0 (w'.heap[gb425]? = some (.cells #[.int .i64 x426000_2, .int .i64 x426001_2, u426002, u426003] 27 (0, 0))) ∧ Aside0 (Below w.heap.size w w'))
        case atStart => exact ⟨(0), (([] : List Int)), (([] : List Int)), (0), (0), (0), (([] : List Int)), (([] : List (S57))), (.slice none 0 0), (.slice none 0 0), (by first | (with_reducible rfl) | rfl | (simp; done) | (simp [*]; done)), (by first | (with_reducible rfl) | rfl | (simp; done) | (simp [*]; done)), H', ⟨Nat.le_refl _⟩, ⟨by first | exact Kd.R_nil _ _ _ _ _ | exact Kd.N_nil _ _ _ _ _ | exact Kd.V_nil _ _ _ _ _ | exact Kd.Q_nil _ _ _ _ _ | exact Kd.S_nil _ _ _ _ _⟩, ⟨by first | exact Kd.R_nil _ _ _ _ _ | exact Kd.N_nil _ _ _ _ _ | exact Kd.V_nil _ _ _ _ _ | exact Kd.Q_nil _ _ _ _ _ | exact Kd.S_nil _ _ _ _ _⟩, ⟨Kd.V_nil _ _ _ _ _⟩, ⟨Kd.V_nil _ _ _ _ _⟩, ⟨bo BK422⟩, ⟨bo BK425⟩, ⟨bl HB⟩⟩
        case round =>
          clear H'
          try clear c1
          try clear p2
          try clear c5
          try clear c5b0
          try clear c5b1
          try clear c6
          try clear c7
          try clear c7b0
          try clear c7b1
          try clear c9
          try clear c13
          try clear c17
          try clear hcz10_0
          try clear hcz10_1
          try clear hcz10_2
          try clear hcz10_3
          try clear hcz11_0
          try clear hcz11_1
          try clear hcz11_2
          try clear hcz11_3
          try clear hcz18_0
          try clear hcz18_1
          try clear hcz18_2
          try clear hcz18_3
          try clear hcz8_0
          try clear hcz8_1
          try clear hcz8_2
          try clear hcz8_3
          try clear hfz10_0
          try clear hfz10_1
          try clear hfz10_2
          try clear hfz10_3
          try clear hfz11_0
          try clear hfz11_1
          try clear hfz11_2
          try clear hfz11_3
          try clear hfz18_0
          try clear hfz18_1
          try clear hfz18_2
          try clear hfz18_3
          try clear hfz8_0
          try clear hfz8_1
          try clear hfz8_2
          try clear hfz8_3
          try clear p2
          obtain ⟨x6_2, x7_2, x8_2, x9_2, x426000_2, x426001_2, x426002_2, x426003_2, u426002, u426003, rfl, rfl, HA, HK2, HO_7, HO_8, HO_426002, HO_426003, BK422, BK425, HB⟩ := hrel
          cases gk with
          | zero => exact absurd HA.out (by simp [sandglasslaw10_GcraRate.l0])
          | succ k2 =>
            have H := HA.out
            clear HA
            simp only [sandglasslaw10_GcraRate.l0] at H
            by_cases c20 : x9_2 < (l1.length : Int)
            · rw [if_pos c20] at H
              have c20b0 : decide (x9_2 < (l1.length : Int)) = true := decide_eq_true c20
              clear c20
              have HC21 := Aside0.mk H
              clear H
              go_upto_region 10 with (fail)
              go_cut [57] (fun v57 wc => ∃ (kq : Nat) (x57_20 : Bool), v57 = .bool x57_20 ∧ Aside0 (sandglasslaw10_GcraRate.j2 kq l1 x6_2 x7_2 x8_2 x9_2 x57_20 a0_0 a0_1 a0_2 a0_3 x426000_2 x426001_2 x426002_2 x426003_2 = some r) ∧ Aside0 (kq ≤ k2) ∧ Aside0 (Kd.R (Kd.int .i64) 3 wc w.heap.size (fun k_ => some k_ ≠ (u8 : Value).ownBlock) u7 x7_2) ∧ Aside0 (Kd.R (Kd.int .i64) 3 wc w.heap.size (fun k_ => some k_ ≠ (u7 : Value).ownBlock) u8 x8_2) ∧ Aside0 (Kd.V (Kd.int .i64) 3 wc w.heap.size (fun k_ => some k_ ≠ (u7 : Value).ownBlock ∧ some k_ ≠ (u8 : Value).ownBlock ∧ k_ ≠ gb422 ∧ k_ ≠ gb425) u426002 x426002_2) ∧ Aside0 (Kd.V k57 57 wc w.heap.size (fun k_ => some k_ ≠ (u7 : Value).ownBlock ∧ some k_ ≠ (u8 : Value).ownBlock ∧ k_ ≠ gb422 ∧ k_ ≠ gb425) u426003 x426003_2) ∧ Aside0 (wc.heap[gb422]? = some (.cells #[.int .i64 a0_0, .int .i64 a0_1, .int .i64 a0_2, .int .i64 a0_3] 23 (0, 0))) ∧ Aside0 (wc.heap[gb425]? = some (.cells #[.int .i64 x426000_2, .int .i64 x426001_2, u426002, u426003] 27 (0, 0))) ∧ Aside0 (Below w.heap.size w wc))
              case first =>
                have H := HC21.out
                clear HC21
                by_cases c22 : 0 ≤ x9_2
                · rw [if_pos c22] at H
                  have c22b0 : decide (0 ≤ x9_2) = true := decide_eq_true c22
                  clear c22
                  (first | rw [c22b0] | (simp only [i64_w, i32_w]; rw [c22b0]) | skip)
                  by_cases c23 : ((rd_T45 l1 x9_2).f0) < 0
                  · rw [if_pos c23] at H
                    have c23b0 : decide (((rd_T45 l1 x9_2).f0) < 0) = true := decide_eq_true c23
                    clear c23
                    have H' := Aside0.mk H
                    clear H
                    have p426 : 0 ≤ (x9_2 : Int) := of_decide_eq_true (by first | (with_reducible assumption) | assumption)
                    have q426 : x9_2 < (l1.length : Int) := of_decide_eq_true (by first | (with_reducible assumption) | assumption)
                    obtain ⟨ad426, e426, hx426_0, hx426_1⟩ := at_T45 HR1.out x9_2 p426 q426
                    cases e426
                    replace hx426_0 := (HB.out.cell (World.block_lt_of_cell? w _ hx426_0)).trans hx426_0
                    replace hx426_1 := (HB.out.cell (World.block_lt_of_cell? w _ hx426_1)).trans hx426_1
                    replace p426 := eq_true p426
                    replace q426 := eq_true q426
                    go_wp2
                    go_meet
                    case rel => exact ⟨_, (true), (by first | (with_reducible rfl) | rfl | (simp; done) | (simp [*]; done)), H', ⟨by have := HJ2.out; have := HK2.out; first | omega | exact Nat.le_refl _⟩, ⟨by (with_reducible repeat (first | apply Kd.R_alloc | apply Kd.R_drewN | apply Kd.R_drew)); exact HO_7.out⟩, ⟨by (with_reducible repeat (first | apply Kd.R_alloc | apply Kd.R_drewN | apply Kd.R_drew)); exact HO_8.out⟩, ⟨by (with_reducible repeat (first | apply Kd.V_alloc | apply Kd.V_drewN | apply Kd.V_drew)); exact HO_426002.out⟩, ⟨by (with_reducible repeat (first | apply Kd.V_alloc | apply Kd.V_drewN | apply Kd.V_drew)); exact HO_426003.out⟩, ⟨bo BK422⟩, ⟨bo BK425⟩, ⟨bl HB⟩⟩
                  · rw [if_neg c23] at H
                    have c23b0 : decide (((rd_T45 l1 x9_2).f0) < 0) = false := decide_eq_false c23
                    clear c23
                    by_cases c24 : ((rd_T45 l1 x9_2).f0) > 1048576
                    · rw [if_pos c24] at H
                      have c24b0 : decide (1048576 < ((rd_T45 l1 x9_2).f0)) = true := decide_eq_true c24
                      clear c24
                      have H' := Aside0.mk H
                      clear H
                      have p426 : 0 ≤ (x9_2 : Int) := of_decide_eq_true (by first | (with_reducible assumption) | assumption)
                      have q426 : x9_2 < (l1.length : Int) := of_decide_eq_true (by first | (with_reducible assumption) | assumption)
                      obtain ⟨ad426, e426, hx426_0, hx426_1⟩ := at_T45 HR1.out x9_2 p426 q426
                      cases e426
                      replace hx426_0 := (HB.out.cell (World.block_lt_of_cell? w _ hx426_0)).trans hx426_0
                      replace hx426_1 := (HB.out.cell (World.block_lt_of_cell? w _ hx426_1)).trans hx426_1
                      replace p426 := eq_true p426
                      replace q426 := eq_true q426
                      have p427 : 0 ≤ (x9_2 : Int) := of_decide_eq_true (by first | (with_reducible assumption) | assumption)
                      have q427 : x9_2 < (l1.length : Int) := of_decide_eq_true (by first | (with_reducible assumption) | assumption)
                      obtain ⟨ad427, e427, hx427_0, hx427_1⟩ := at_T45 HR1.out x9_2 p427 q427
                      obtain rfl : ad426 = ad427 := (by injection e427)
                      replace hx427_0 := (HB.out.cell (World.block_lt_of_cell? w _ hx427_0)).trans hx427_0
                      replace hx427_1 := (HB.out.cell (World.block_lt_of_cell? w _ hx427_1)).trans hx427_1
                      replace p427 := eq_true p427
                      replace q427 := eq_true q427
                      go_wp2
                      go_meet
                      case rel => exact ⟨_, (true), (by first | (with_reducible rfl) | rfl | (simp; done) | (simp [*]; done)), H', ⟨by have := HJ2.out; have := HK2.out; first | omega | exact Nat.le_refl _⟩, ⟨by (with_reducible repeat (first | apply Kd.R_alloc | apply Kd.R_drewN | apply Kd.R_drew)); exact HO_7.out⟩, ⟨by (with_reducible repeat (first | apply Kd.R_alloc | apply Kd.R_drewN | apply Kd.R_drew)); exact HO_8.out⟩, ⟨by (with_reducible repeat (first | apply Kd.V_alloc | apply Kd.V_drewN | apply Kd.V_drew)); exact HO_426002.out⟩, ⟨by (with_reducible repeat (first | apply Kd.V_alloc | apply Kd.V_drewN | apply Kd.V_drew)); exact HO_426003.out⟩, ⟨bo BK422⟩, ⟨bo BK425⟩, ⟨bl HB⟩⟩
                    · rw [if_neg c24] at H
                      have c24b0 : decide (1048576 < ((rd_T45 l1 x9_2).f0)) = false := decide_eq_false c24
                      clear c24
                      replace H := Option.bind_eq_some_iff.mp H
                      obtain ⟨t429, A250, H⟩ := H
                      have A25 := Aside0.mk A250
                      clear A250
                      have H' := Aside0.mk H
                      clear H
                      have p426 : 0 ≤ (x9_2 : Int) := of_decide_eq_true (by first | (with_reducible assumption) | assumption)
                      have q426 : x9_2 < (l1.length : Int) := of_decide_eq_true (by first | (with_reducible assumption) | assumption)
                      obtain ⟨ad426, e426, hx426_0, hx426_1⟩ := at_T45 HR1.out x9_2 p426 q426
                      cases e426
                      replace hx426_0 := (HB.out.cell (World.block_lt_of_cell? w _ hx426_0)).trans hx426_0
                      replace hx426_1 := (HB.out.cell (World.block_lt_of_cell? w _ hx426_1)).trans hx426_1
                      replace p426 := eq_true p426
                      replace q426 := eq_true q426
                      have p427 : 0 ≤ (x9_2 : Int) := of_decide_eq_true (by first | (with_reducible assumption) | assumption)
                      have q427 : x9_2 < (l1.length : Int) := of_decide_eq_true (by first | (with_reducible assumption) | assumption)
                      obtain ⟨ad427, e427, hx427_0, hx427_1⟩ := at_T45 HR1.out x9_2 p427 q427
                      obtain rfl : ad426 = ad427 := (by injection e427)
                      replace hx427_0 := (HB.out.cell (World.block_lt_of_cell? w _ hx427_0)).trans hx427_0
                      replace hx427_1 := (HB.out.cell (World.block_lt_of_cell? w _ hx427_1)).trans hx427_1
                      replace p427 := eq_true p427
                      replace q427 := eq_true q427
                      have p428 : 0 ≤ (x9_2 : Int) := of_decide_eq_true (by first | (with_reducible assumption) | assumption)
                      have q428 : x9_2 < (l1.length : Int) := of_decide_eq_true (by first | (with_reducible assumption) | assumption)
                      obtain ⟨ad428, e428, hx428_0, hx428_1⟩ := at_T45 HR1.out x9_2 p428 q428
                      obtain rfl : ad426 = ad428 := (by injection e428)
                      replace hx428_0 := (HB.out.cell (World.block_lt_of_cell? w _ hx428_0)).trans hx428_0
                      replace hx428_1 := (HB.out.cell (World.block_lt_of_cell? w _ hx428_1)).trans hx428_1
                      replace p428 := eq_true p428
                      replace q428 := eq_true q428
                      go_wp2_with (first | (go_at_call 19; (with_reducible refine (sandglassref09_Weighs.calls ((rd_T45 l1 x9_2).f1) t429 _ A25.out).mono ?_); rintro e w' ⟨rfl, ⟨nd, rfl⟩⟩))
                      go_meet
                      case rel => exact ⟨_, (!t429), (by first | (with_reducible rfl) | rfl | (simp; done) | (simp [*]; done)), H', ⟨by have := HJ2.out; have := HK2.out; first | omega | exact Nat.le_refl _⟩, ⟨by (with_reducible repeat (first | apply Kd.R_alloc | apply Kd.R_drewN | apply Kd.R_drew)); exact HO_7.out⟩, ⟨by (with_reducible repeat (first | apply Kd.R_alloc | apply Kd.R_drewN | apply Kd.R_drew)); exact HO_8.out⟩, ⟨by (with_reducible repeat (first | apply Kd.V_alloc | apply Kd.V_drewN | apply Kd.V_drew)); exact HO_426002.out⟩, ⟨by (with_reducible repeat (first | apply Kd.V_alloc | apply Kd.V_drewN | apply Kd.V_drew)); exact HO_426003.out⟩, ⟨bo BK422⟩, ⟨bo BK425⟩, ⟨bl HB⟩⟩
                · rw [if_neg c22] at H
                  exact absurd H (by simp)
              case rest =>
                clear HC21
                try clear c1
                try clear c2
                try clear p2
                try clear p4
                try clear q4
                try clear hx4
                try clear c5
                try clear c5b0
                try clear c5b1
                try clear c6
                try clear c7
                try clear c7b0
                try clear c7b1
                try clear c9
                try clear c13
                try clear c17
                try clear c20
                try clear c20b0
                try clear c22
                try clear c22b0
                try clear c23
                try clear c23b0
                try clear c24
                try clear c24b0
                try clear hcz10_0
                try clear hcz10_1
                try clear hcz10_2
                try clear hcz10_3
                try clear hcz11_0
                try clear hcz11_1
                try clear hcz11_2
                try clear hcz11_3
                try clear hcz18_0
                try clear hcz18_1
                try clear hcz18_2
                try clear hcz18_3
                try clear hcz8_0
                try clear hcz8_1
                try clear hcz8_2
                try clear hcz8_3
                try clear hfz10_0
                try clear hfz10_1
                try clear hfz10_2
                try clear hfz10_3
                try clear hfz11_0
                try clear hfz11_1
                try clear hfz11_2
                try clear hfz11_3
                try clear hfz18_0
                try clear hfz18_1
                try clear hfz18_2
                try clear hfz18_3
                try clear hfz8_0
                try clear hfz8_1
                try clear hfz8_2
                try clear hfz8_3
                try clear hx426_0
                try clear hx426_1
                try clear hx427_0
                try clear hx427_1
                try clear hx428_0
                try clear hx428_1
                try clear p2
                try clear p426
                try clear p427
                try clear p428
                try clear q426
                try clear q427
                try clear q428
                obtain ⟨kq, x57_20, rfl, HA, HJ20, HO_7, HO_8, HO_426002, HO_426003, BK422, BK425, HB⟩ := hcut
                cases kq with
                | zero => exact absurd HA.out (by simp [sandglasslaw10_GcraRate.j2])
                | succ kj20 =>
                  have H := HA.out
                  clear HA
                  simp only [sandglasslaw10_GcraRate.j2] at H
                  by_cases c26 : x57_20 = true
                  · subst c26
                    rw [if_pos rfl] at H
                    replace H := Option.bind_eq_some_iff.mp H
                    obtain ⟨t430, A270, H⟩ := H
                    have A27 := Aside0.mk A270
                    clear A270
                    obtain rfl := Option.some.inj H
                    go_wp2_with (first | ((with_reducible refine gate_callee (f := 9) rfl ?_); refine goesL_ (some 58) rfl rfl Try.func9 (by kernel_rfl) rfl #[] rfl (by (try simp only [List.map_toArray, List.map_cons, List.map_nil]); first | done | rfl | (simp only [List.length_drop, List.length_take]; rfl)) ?_; (with_reducible refine (sandglasslaw10_live.calls kj20  t430 _ A27.out).mono ?_); rintro e w28 ⟨rfl, hb⟩; refine ⟨_, rfl, ?_⟩; replace HO_7 := Aside0.mk (Kd.R_below (by (with_reducible repeat (first | apply Kd.R_alloc | apply Kd.R_drewN | apply Kd.R_drew)); exact HO_7.out) hb); replace HO_8 := Aside0.mk (Kd.R_below (by (with_reducible repeat (first | apply Kd.R_alloc | apply Kd.R_drewN | apply Kd.R_drew)); exact HO_8.out) hb); replace HO_426002 := vb HO_426002 hb; replace HO_426003 := vb HO_426003 hb; replace BK422 := Aside0.mk (blk_below (bo BK422) hb); replace BK425 := Aside0.mk (blk_below (bo BK425) hb); replace HB := Aside0.mk (below_step (bl HB) hb); (try clear hb); (try clear hb2); (try clear hk); (try clear hi)))
                    go_ret
                    exact ⟨by first | (with_reducible rfl) | rfl | (simp [errW_none, errW_some] <;> rfl) | (simp [*, errW_none, errW_some] <;> rfl), bl HB⟩
                  · replace c26 := Bool.eq_false_iff.mpr c26
                    subst c26
                    rw [if_neg (show ¬ (false = true) by decide)] at H
                    by_cases c29 : 0 ≤ x9_2
                    · rw [if_pos c29] at H
                      have c29b0 : decide (0 ≤ x9_2) = true := decide_eq_true c29
                      clear c29
                      by_cases c30 : x9_2 < (l1.length : Int)
                      · rw [if_pos c30] at H
                        have c30b0 : decide (x9_2 < (l1.length : Int)) = true := decide_eq_true c30
                        clear c30
                        replace H := Option.bind_eq_some_iff.mp H
                        obtain ⟨⟨t433, t434, t435, t438, t441, t442, t443, t444⟩, A310, H⟩ := H
                        have A31 := Aside0.mk A310
                        clear A310
                        by_cases c32 : x7_2.length < 17592186044416
                        · rw [if_pos c32] at H
                          have LMc32 := Aside0.mk c32
                          clear c32
                          obtain ⟨y447, hy447⟩ : ∃ y_ : List Int, y_ = (x7_2 ++ [wrap64 (x6_2 + ((rd_T45 l1 x9_2).f0))]) := ⟨_, rfl⟩
                          replace H : (if t441 = true then (if x8_2.length < 17592186044416 then (sandglasslaw10_GcraRate.j3 kj20 l1 (wrap64 (x6_2 + ((rd_T45 l1 x9_2).f0))) y447 (x8_2 ++ [(rd_T45 l1 x9_2).f1]) x9_2 a0_0 a0_1 a0_2 a0_3 t433 t434 t435 t438) else (none)) else (if x8_2.length < 17592186044416 then (sandglasslaw10_GcraRate.j3 kj20 l1 (wrap64 (x6_2 + ((rd_T45 l1 x9_2).f0))) y447 (x8_2 ++ [0]) x9_2 a0_0 a0_1 a0_2 a0_3 t433 t434 t435 t438) else (none))) = some r := by first | (rw [hy447]; with_reducible exact H) | (have H2_ := (Option.bind_some _ _).symm.trans H; rw [hy447]; with_reducible exact H2_) | (have H2_ := (Option.bind_some _ _).symm.trans H; with_reducible exact H2_) | with_reducible exact H | (rw [hy447]; exact H) | exact H
                          have Ny447 := Aside0.mk hy447
                          clear hy447
                          have HC33 := Aside0.mk H
                          clear H
                          have p431 : 0 ≤ (x9_2 : Int) := of_decide_eq_true (by first | (with_reducible assumption) | assumption)
                          have q431 : x9_2 < (l1.length : Int) := of_decide_eq_true (by first | (with_reducible assumption) | assumption)
                          obtain ⟨ad431, e431, hx431_0, hx431_1⟩ := at_T45 HR1.out x9_2 p431 q431
                          cases e431
                          replace hx431_0 := (HB.out.cell (World.block_lt_of_cell? w _ hx431_0)).trans hx431_0
                          replace hx431_1 := (HB.out.cell (World.block_lt_of_cell? w _ hx431_1)).trans hx431_1
                          replace p431 := eq_true p431
                          replace q431 := eq_true q431
                          obtain ⟨Ao34, co34, eo34⟩ := Kd.V_slice HO_426002.out
                          subst eo34
                          obtain ⟨Ao35, co35, eo35⟩ := Kd.V_slice HO_426003.out
                          subst eo35
                          try go_wp2
                          replace HO_7 := Aside0.mk (Kd.R_drew HO_7.out)
                          replace HO_8 := Aside0.mk (Kd.R_drew HO_8.out)
                          replace HO_426002 := Aside0.mk (Kd.V_drew HO_426002.out)
                          replace HO_426003 := Aside0.mk (Kd.V_drew HO_426003.out)
                          replace BK422 := Aside0.mk (blk_drew BK422.out)
                          replace BK425 := Aside0.mk (blk_drew BK425.out)
                          replace HB := Aside0.mk (below_drew1 HB.out)
                          have p432 : 0 ≤ (x9_2 : Int) := of_decide_eq_true (by first | (with_reducible assumption) | assumption)
                          have q432 : x9_2 < (l1.length : Int) := of_decide_eq_true (by first | (with_reducible assumption) | assumption)
                          obtain ⟨ad432, e432, hx432_0, hx432_1⟩ := at_T45 HR1.out x9_2 p432 q432
                          have hw432_1 := hx432_1
                          have hw432_0 := hx432_0
                          obtain rfl : ad431 = ad432 := (by injection e432)
                          replace hx432_0 := (HB.out.cell (World.block_lt_of_cell? w _ hx432_0)).trans hx432_0
                          replace hx432_1 := (HB.out.cell (World.block_lt_of_cell? w _ hx432_1)).trans hx432_1
                          replace p432 := eq_true p432
                          replace q432 := eq_true q432
                          refine start_ (n := 16) (S := fun w' => w'.cell? ⟨gb422, 0, none⟩ = some (.int .i64 a0_0) ∧ w'.cell? ⟨gb422, 1, none⟩ = some (.int .i64 a0_1) ∧ w'.cell? ⟨gb422, 2, none⟩ = some (.int .i64 a0_2) ∧ w'.cell? ⟨gb422, 3, none⟩ = some (.int .i64 a0_3) ∧ w'.cell? ⟨gb425, 0, none⟩ = some (.int .i64 x426000_2) ∧ w'.cell? ⟨gb425, 1, none⟩ = some (.int .i64 x426001_2) ∧ w'.cell? ⟨gb425, 2, none⟩ = some (.slice Ao34 x426002_2.length co34) ∧ w'.cell? ⟨gb425, 3, none⟩ = some (.slice Ao35 x426003_2.length co35) ∧ w'.cell? (ad431.add ((x9_2).toNat * 2)) = some (.int .i64 ((rd_T45 l1 x9_2).f0)) ∧ w'.cell? ⟨(ad431.add ((x9_2).toNat * 2)).block, (ad431.add ((x9_2).toNat * 2)).off + 1, none⟩ = some (.int .i64 ((rd_T45 l1 x9_2).f1))) (ds := []) #[false, false, false, false, false, false, false, false, false, false, false, false, false, false, false, false] (by kernel_rfl) rfl rfl ⟨(blk_cell BK422.out 0).trans rfl, (blk_cell BK422.out 1).trans rfl, (blk_cell BK422.out 2).trans rfl, (blk_cell BK422.out 3).trans rfl, (blk_cell BK425.out 0).trans rfl, (blk_cell BK425.out 1).trans rfl, (blk_cell BK425.out 2).trans rfl, (blk_cell BK425.out 3).trans rfl, ((HB.out.cell (World.block_lt_of_cell? w _ hw432_0)).trans hw432_0), ((HB.out.cell (World.block_lt_of_cell? w _ hw432_1)).trans hw432_1)⟩ (fun hHeld => ?_); refine with_tabW sandglasslaw10_GcraRate.tab13 sandglasslaw10_GcraRate.bits13 (fun HT_ HW_ => ?_)
                          generalize wc.drew = w36 at HO_7 HO_8 HO_426002 HO_426003 BK422 BK425 HB hx432_0 hx432_1 hHeld ⊢
                          refine pureA 2 69 HT_ ?_
                          refine pureA 3 70 HT_ ?_
                          refine pureA 4 71 HT_ ?_
                          refine pureA 5 72 HT_ ?_
                          refine pureA 6 73 HT_ ?_
                          refine takeA 0 67 HT_ HW_ hHeld ?_
                          refine takeA 1 68 HT_ HW_ hHeld ?_
                          refine takeA 7 74 HT_ HW_ hHeld ?_
                          refine join_ (σ := Value × Value × Nat × Nat) 2 #[true, true, true, true, true, true, true, true, true, true, true, true, true, true, false, false] (fun s_ => [(75, .tuple #[.agg #[.int .i64 t433, .int .i64 t434, s_.1, s_.2.1], .agg #[.bool t441, .int .i64 t442, .int .i64 t443, .int .i64 t444]]), (10, .pointer (some ⟨s_.2.2.1, 0, none⟩)), (11, .pointer (some ⟨s_.2.2.2, 0, none⟩)), (66, .tuple #[.agg #[.int .i64 t433, .int .i64 t434, s_.1, s_.2.1], .agg #[.bool t441, .int .i64 t442, .int .i64 t443, .int .i64 t444]]), (76, .agg #[.int .i64 t433, .int .i64 t434, s_.1, s_.2.1]), (77, .agg #[.bool t441, .int .i64 t442, .int .i64 t443, .int .i64 t444])]) (fun s_ w' => (w'.cell? ⟨gb422, 0, none⟩ = some (.int .i64 a0_0) ∧ w'.cell? ⟨gb422, 1, none⟩ = some (.int .i64 a0_1) ∧ w'.cell? ⟨gb422, 2, none⟩ = some (.int .i64 a0_2) ∧ w'.cell? ⟨gb422, 3, none⟩ = some (.int .i64 a0_3) ∧ w'.cell? ⟨gb425, 0, none⟩ = some (.int .i64 x426000_2) ∧ w'.cell? ⟨gb425, 1, none⟩ = some (.int .i64 x426001_2) ∧ w'.cell? ⟨gb425, 2, none⟩ = some (.slice Ao34 x426002_2.length co34) ∧ w'.cell? ⟨gb425, 3, none⟩ = some (.slice Ao35 x426003_2.length co35) ∧ w'.cell? (ad431.add ((x9_2).toNat * 2)) = some (.int .i64 ((rd_T45 l1 x9_2).f0)) ∧ w'.cell? ⟨(ad431.add ((x9_2).toNat * 2)).block, (ad431.add ((x9_2).toNat * 2)).off + 1, none⟩ = some (.int .i64 ((rd_T45 l1 x9_2).f1))) ∧ (Kd.V (Kd.int .i64) 3 w' w.heap.size (fun k_ => some k_ ≠ (u7 : Value).ownBlock ∧ some k_ ≠ (u8 : Value).ownBlock ∧ k_ ≠ gb422 ∧ k_ ≠ gb425 ∧ k_ ≠ s_.2.2.1 ∧ k_ ≠ s_.2.2.2) s_.1 t435) ∧ (Kd.V k57 57 w' w.heap.size (fun k_ => some k_ ≠ (u7 : Value).ownBlock ∧ some k_ ≠ (u8 : Value).ownBlock ∧ k_ ≠ gb422 ∧ k_ ≠ gb425 ∧ k_ ≠ s_.2.2.1 ∧ k_ ≠ s_.2.2.2) s_.2.1 t438) ∧ (Kd.V (Kd.int .i64) 3 w' w.heap.size (fun k_ => some k_ ≠ (u7 : Value).ownBlock ∧ some k_ ≠ (u8 : Value).ownBlock ∧ k_ ≠ gb422 ∧ k_ ≠ gb425 ∧ k_ ≠ s_.2.2.1 ∧ k_ ≠ s_.2.2.2) (.slice Ao34 x426002_2.length co34) x426002_2) ∧ (Kd.V k57 57 w' w.heap.size (fun k_ => some k_ ≠ (u7 : Value).ownBlock ∧ some k_ ≠ (u8 : Value).ownBlock ∧ k_ ≠ gb422 ∧ k_ ≠ gb425 ∧ k_ ≠ s_.2.2.1 ∧ k_ ≠ s_.2.2.2) (.slice Ao35 x426003_2.length co35) x426003_2) ∧ (Kd.R (Kd.int .i64) 3 w' w.heap.size (fun k_ => some k_ ≠ (u8 : Value).ownBlock) u7 x7_2) ∧ (Kd.R (Kd.int .i64) 3 w' w.heap.size (fun k_ => some k_ ≠ (u7 : Value).ownBlock) u8 x8_2) ∧ (w'.heap[gb422]? = some (.cells #[.int .i64 a0_0, .int .i64 a0_1, .int .i64 a0_2, .int .i64 a0_3] 23 (0, 0))) ∧ (w'.heap[gb425]? = some (.cells #[.int .i64 x426000_2, .int .i64 x426001_2, .slice Ao34 x426002_2.length co34, .slice Ao35 x426003_2.length co35] 27 (0, 0))) ∧ (w'.heap[s_.2.2.1]? = some (.cells #[.int .i64 0, .int .i64 0, .slice none 0 0, .slice none 0 0] 27 (0, 0))) ∧ (w'.heap[s_.2.2.2]? = some (.cells #[.bool false, .int .i64 0, .int .i64 0, .int .i64 0] 32 (0, 0))) ∧ (w.heap.size ≤ s_.2.2.1) ∧ (w.heap.size ≤ s_.2.2.1) ∧ (gb422 ≠ s_.2.2.1) ∧ (s_.2.2.1 ≠ gb422) ∧ (gb425 ≠ s_.2.2.1) ∧ (s_.2.2.1 ≠ gb425) ∧ (s_.2.2.2 ≠ s_.2.2.1) ∧ (s_.2.2.1 ≠ s_.2.2.2) ∧ (w.heap.size ≤ s_.2.2.2) ∧ (w.heap.size ≤ s_.2.2.2) ∧ (gb422 ≠ s_.2.2.2) ∧ (s_.2.2.2 ≠ gb422) ∧ (gb425 ≠ s_.2.2.2) ∧ (s_.2.2.2 ≠ gb425) ∧ (Below w.heap.size w w')) ?_ ?_
                          rotate_left
                          · intro hJ8_12_13
                            refine join_ (σ := Value × Value × Nat) 3 #[true, true, true, true, true, true, true, true, true, true, true, true, true, false, false, false] (fun s_ => [(75, .tuple #[.agg #[.int .i64 t433, .int .i64 t434, s_.1, s_.2.1], .agg #[.bool t441, .int .i64 t442, .int .i64 t443, .int .i64 t444]]), (10, .pointer (some ⟨s_.2.2, 0, none⟩)), (66, .tuple #[.agg #[.int .i64 t433, .int .i64 t434, s_.1, s_.2.1], .agg #[.bool t441, .int .i64 t442, .int .i64 t443, .int .i64 t444]]), (76, .agg #[.int .i64 t433, .int .i64 t434, s_.1, s_.2.1]), (77, .agg #[.bool t441, .int .i64 t442, .int .i64 t443, .int .i64 t444])]) (fun s_ w' => (w'.cell? ⟨gb422, 0, none⟩ = some (.int .i64 a0_0) ∧ w'.cell? ⟨gb422, 1, none⟩ = some (.int .i64 a0_1) ∧ w'.cell? ⟨gb422, 2, none⟩ = some (.int .i64 a0_2) ∧ w'.cell? ⟨gb422, 3, none⟩ = some (.int .i64 a0_3) ∧ w'.cell? ⟨gb425, 0, none⟩ = some (.int .i64 x426000_2) ∧ w'.cell? ⟨gb425, 1, none⟩ = some (.int .i64 x426001_2) ∧ w'.cell? ⟨gb425, 2, none⟩ = some (.slice Ao34 x426002_2.length co34) ∧ w'.cell? ⟨gb425, 3, none⟩ = some (.slice Ao35 x426003_2.length co35) ∧ w'.cell? (ad431.add ((x9_2).toNat * 2)) = some (.int .i64 ((rd_T45 l1 x9_2).f0)) ∧ w'.cell? ⟨(ad431.add ((x9_2).toNat * 2)).block, (ad431.add ((x9_2).toNat * 2)).off + 1, none⟩ = some (.int .i64 ((rd_T45 l1 x9_2).f1))) ∧ (Kd.V (Kd.int .i64) 3 w' w.heap.size (fun k_ => some k_ ≠ (u7 : Value).ownBlock ∧ some k_ ≠ (u8 : Value).ownBlock ∧ k_ ≠ gb422 ∧ k_ ≠ gb425 ∧ k_ ≠ s_.2.2) s_.1 t435) ∧ (Kd.V k57 57 w' w.heap.size (fun k_ => some k_ ≠ (u7 : Value).ownBlock ∧ some k_ ≠ (u8 : Value).ownBlock ∧ k_ ≠ gb422 ∧ k_ ≠ gb425 ∧ k_ ≠ s_.2.2) s_.2.1 t438) ∧ (Kd.V (Kd.int .i64) 3 w' w.heap.size (fun k_ => some k_ ≠ (u7 : Value).ownBlock ∧ some k_ ≠ (u8 : Value).ownBlock ∧ k_ ≠ gb422 ∧ k_ ≠ gb425 ∧ k_ ≠ s_.2.2) (.slice Ao34 x426002_2.length co34) x426002_2) ∧ (Kd.V k57 57 w' w.heap.size (fun k_ => some k_ ≠ (u7 : Value).ownBlock ∧ some k_ ≠ (u8 : Value).ownBlock ∧ k_ ≠ gb422 ∧ k_ ≠ gb425 ∧ k_ ≠ s_.2.2) (.slice Ao35 x426003_2.length co35) x426003_2) ∧ (Kd.R (Kd.int .i64) 3 w' w.heap.size (fun k_ => some k_ ≠ (u8 : Value).ownBlock) u7 x7_2) ∧ (Kd.R (Kd.int .i64) 3 w' w.heap.size (fun k_ => some k_ ≠ (u7 : Value).ownBlock) u8 x8_2) ∧ (w'.heap[gb422]? = some (.cells #[.int .i64 a0_0, .int .i64 a0_1, .int .i64 a0_2, .int .i64 a0_3] 23 (0, 0))) ∧ (w'.heap[gb425]? = some (.cells #[.int .i64 x426000_2, .int .i64 x426001_2, .slice Ao34 x426002_2.length co34, .slice Ao35 x426003_2.length co35] 27 (0, 0))) ∧ (w'.heap[s_.2.2]? = some (.cells #[.int .i64 0, .int .i64 0, .slice none 0 0, .slice none 0 0] 27 (0, 0))) ∧ (w.heap.size ≤ s_.2.2) ∧ (w.heap.size ≤ s_.2.2) ∧ (gb422 ≠ s_.2.2) ∧ (s_.2.2 ≠ gb422) ∧ (gb425 ≠ s_.2.2) ∧ (s_.2.2 ≠ gb425) ∧ (Below w.heap.size w w')) ?_ ?_
                            rotate_left
                            · intro hJ8_12
                              refine join_ (σ := Value × Value × Nat) 3 #[true, true, true, true, true, true, true, true, true, true, true, true, false, true, false, false] (fun s_ => [(75, .tuple #[.agg #[.int .i64 t433, .int .i64 t434, s_.1, s_.2.1], .agg #[.bool t441, .int .i64 t442, .int .i64 t443, .int .i64 t444]]), (11, .pointer (some ⟨s_.2.2, 0, none⟩)), (66, .tuple #[.agg #[.int .i64 t433, .int .i64 t434, s_.1, s_.2.1], .agg #[.bool t441, .int .i64 t442, .int .i64 t443, .int .i64 t444]]), (76, .agg #[.int .i64 t433, .int .i64 t434, s_.1, s_.2.1]), (77, .agg #[.bool t441, .int .i64 t442, .int .i64 t443, .int .i64 t444])]) (fun s_ w' => (w'.cell? ⟨gb422, 0, none⟩ = some (.int .i64 a0_0) ∧ w'.cell? ⟨gb422, 1, none⟩ = some (.int .i64 a0_1) ∧ w'.cell? ⟨gb422, 2, none⟩ = some (.int .i64 a0_2) ∧ w'.cell? ⟨gb422, 3, none⟩ = some (.int .i64 a0_3) ∧ w'.cell? ⟨gb425, 0, none⟩ = some (.int .i64 x426000_2) ∧ w'.cell? ⟨gb425, 1, none⟩ = some (.int .i64 x426001_2) ∧ w'.cell? ⟨gb425, 2, none⟩ = some (.slice Ao34 x426002_2.length co34) ∧ w'.cell? ⟨gb425, 3, none⟩ = some (.slice Ao35 x426003_2.length co35) ∧ w'.cell? (ad431.add ((x9_2).toNat * 2)) = some (.int .i64 ((rd_T45 l1 x9_2).f0)) ∧ w'.cell? ⟨(ad431.add ((x9_2).toNat * 2)).block, (ad431.add ((x9_2).toNat * 2)).off + 1, none⟩ = some (.int .i64 ((rd_T45 l1 x9_2).f1))) ∧ (Kd.V (Kd.int .i64) 3 w' w.heap.size (fun k_ => some k_ ≠ (u7 : Value).ownBlock ∧ some k_ ≠ (u8 : Value).ownBlock ∧ k_ ≠ gb422 ∧ k_ ≠ gb425 ∧ k_ ≠ s_.2.2) s_.1 t435) ∧ (Kd.V k57 57 w' w.heap.size (fun k_ => some k_ ≠ (u7 : Value).ownBlock ∧ some k_ ≠ (u8 : Value).ownBlock ∧ k_ ≠ gb422 ∧ k_ ≠ gb425 ∧ k_ ≠ s_.2.2) s_.2.1 t438) ∧ (Kd.V (Kd.int .i64) 3 w' w.heap.size (fun k_ => some k_ ≠ (u7 : Value).ownBlock ∧ some k_ ≠ (u8 : Value).ownBlock ∧ k_ ≠ gb422 ∧ k_ ≠ gb425 ∧ k_ ≠ s_.2.2) (.slice Ao34 x426002_2.length co34) x426002_2) ∧ (Kd.V k57 57 w' w.heap.size (fun k_ => some k_ ≠ (u7 : Value).ownBlock ∧ some k_ ≠ (u8 : Value).ownBlock ∧ k_ ≠ gb422 ∧ k_ ≠ gb425 ∧ k_ ≠ s_.2.2) (.slice Ao35 x426003_2.length co35) x426003_2) ∧ (Kd.R (Kd.int .i64) 3 w' w.heap.size (fun k_ => some k_ ≠ (u8 : Value).ownBlock) u7 x7_2) ∧ (Kd.R (Kd.int .i64) 3 w' w.heap.size (fun k_ => some k_ ≠ (u7 : Value).ownBlock) u8 x8_2) ∧ (w'.heap[gb422]? = some (.cells #[.int .i64 a0_0, .int .i64 a0_1, .int .i64 a0_2, .int .i64 a0_3] 23 (0, 0))) ∧ (w'.heap[gb425]? = some (.cells #[.int .i64 x426000_2, .int .i64 x426001_2, .slice Ao34 x426002_2.length co34, .slice Ao35 x426003_2.length co35] 27 (0, 0))) ∧ (w'.heap[s_.2.2]? = some (.cells #[.bool false, .int .i64 0, .int .i64 0, .int .i64 0] 32 (0, 0))) ∧ (w.heap.size ≤ s_.2.2) ∧ (w.heap.size ≤ s_.2.2) ∧ (gb422 ≠ s_.2.2) ∧ (s_.2.2 ≠ gb422) ∧ (gb425 ≠ s_.2.2) ∧ (s_.2.2 ≠ gb425) ∧ (Below w.heap.size w w')) ?_ ?_
                              rotate_left
                              · intro hJ8_13
                                refine join_ (σ := Nat × Nat) 6 #[true, true, true, true, true, true, true, true, false, false, false, false, true, true, false, false] (fun s_ => [(10, .pointer (some ⟨s_.1, 0, none⟩)), (11, .pointer (some ⟨s_.2, 0, none⟩))]) (fun s_ w' => (w'.cell? ⟨gb422, 0, none⟩ = some (.int .i64 a0_0) ∧ w'.cell? ⟨gb422, 1, none⟩ = some (.int .i64 a0_1) ∧ w'.cell? ⟨gb422, 2, none⟩ = some (.int .i64 a0_2) ∧ w'.cell? ⟨gb422, 3, none⟩ = some (.int .i64 a0_3) ∧ w'.cell? ⟨gb425, 0, none⟩ = some (.int .i64 x426000_2) ∧ w'.cell? ⟨gb425, 1, none⟩ = some (.int .i64 x426001_2) ∧ w'.cell? ⟨gb425, 2, none⟩ = some (.slice Ao34 x426002_2.length co34) ∧ w'.cell? ⟨gb425, 3, none⟩ = some (.slice Ao35 x426003_2.length co35) ∧ w'.cell? (ad431.add ((x9_2).toNat * 2)) = some (.int .i64 ((rd_T45 l1 x9_2).f0)) ∧ w'.cell? ⟨(ad431.add ((x9_2).toNat * 2)).block, (ad431.add ((x9_2).toNat * 2)).off + 1, none⟩ = some (.int .i64 ((rd_T45 l1 x9_2).f1))) ∧ (Kd.V (Kd.int .i64) 3 w' w.heap.size (fun k_ => some k_ ≠ (u7 : Value).ownBlock ∧ some k_ ≠ (u8 : Value).ownBlock ∧ k_ ≠ gb422 ∧ k_ ≠ gb425 ∧ k_ ≠ s_.1 ∧ k_ ≠ s_.2) (.slice Ao34 x426002_2.length co34) x426002_2) ∧ (Kd.V k57 57 w' w.heap.size (fun k_ => some k_ ≠ (u7 : Value).ownBlock ∧ some k_ ≠ (u8 : Value).ownBlock ∧ k_ ≠ gb422 ∧ k_ ≠ gb425 ∧ k_ ≠ s_.1 ∧ k_ ≠ s_.2) (.slice Ao35 x426003_2.length co35) x426003_2) ∧ (Kd.R (Kd.int .i64) 3 w' w.heap.size (fun k_ => some k_ ≠ (u8 : Value).ownBlock) u7 x7_2) ∧ (Kd.R (Kd.int .i64) 3 w' w.heap.size (fun k_ => some k_ ≠ (u7 : Value).ownBlock) u8 x8_2) ∧ (w'.heap[gb422]? = some (.cells #[.int .i64 a0_0, .int .i64 a0_1, .int .i64 a0_2, .int .i64 a0_3] 23 (0, 0))) ∧ (w'.heap[gb425]? = some (.cells #[.int .i64 x426000_2, .int .i64 x426001_2, .slice Ao34 x426002_2.length co34, .slice Ao35 x426003_2.length co35] 27 (0, 0))) ∧ (w'.heap[s_.1]? = some (.cells #[.int .i64 0, .int .i64 0, .slice none 0 0, .slice none 0 0] 27 (0, 0))) ∧ (w'.heap[s_.2]? = some (.cells #[.bool false, .int .i64 0, .int .i64 0, .int .i64 0] 32 (0, 0))) ∧ (w.heap.size ≤ s_.1) ∧ (w.heap.size ≤ s_.1) ∧ (gb422 ≠ s_.1) ∧ (s_.1 ≠ gb422) ∧ (gb425 ≠ s_.1) ∧ (s_.1 ≠ gb425) ∧ (s_.2 ≠ s_.1) ∧ (s_.1 ≠ s_.2) ∧ (w.heap.size ≤ s_.2) ∧ (w.heap.size ≤ s_.2) ∧ (gb422 ≠ s_.2) ∧ (s_.2 ≠ gb422) ∧ (gb425 ≠ s_.2) ∧ (s_.2 ≠ gb425) ∧ (Below w.heap.size w w')) ?_ ?_
                                rotate_left
                                · intro hJ12_13
                                  refine join_ (σ := Value × Value) 4 #[true, true, true, true, true, true, true, true, true, true, true, true, false, false, false, false] (fun s_ => [(75, .tuple #[.agg #[.int .i64 t433, .int .i64 t434, s_.1, s_.2], .agg #[.bool t441, .int .i64 t442, .int .i64 t443, .int .i64 t444]]), (66, .tuple #[.agg #[.int .i64 t433, .int .i64 t434, s_.1, s_.2], .agg #[.bool t441, .int .i64 t442, .int .i64 t443, .int .i64 t444]]), (76, .agg #[.int .i64 t433, .int .i64 t434, s_.1, s_.2]), (77, .agg #[.bool t441, .int .i64 t442, .int .i64 t443, .int .i64 t444])]) (fun s_ w' => (w'.cell? ⟨gb422, 0, none⟩ = some (.int .i64 a0_0) ∧ w'.cell? ⟨gb422, 1, none⟩ = some (.int .i64 a0_1) ∧ w'.cell? ⟨gb422, 2, none⟩ = some (.int .i64 a0_2) ∧ w'.cell? ⟨gb422, 3, none⟩ = some (.int .i64 a0_3) ∧ w'.cell? ⟨gb425, 0, none⟩ = some (.int .i64 x426000_2) ∧ w'.cell? ⟨gb425, 1, none⟩ = some (.int .i64 x426001_2) ∧ w'.cell? ⟨gb425, 2, none⟩ = some (.slice Ao34 x426002_2.length co34) ∧ w'.cell? ⟨gb425, 3, none⟩ = some (.slice Ao35 x426003_2.length co35) ∧ w'.cell? (ad431.add ((x9_2).toNat * 2)) = some (.int .i64 ((rd_T45 l1 x9_2).f0)) ∧ w'.cell? ⟨(ad431.add ((x9_2).toNat * 2)).block, (ad431.add ((x9_2).toNat * 2)).off + 1, none⟩ = some (.int .i64 ((rd_T45 l1 x9_2).f1))) ∧ (Kd.V (Kd.int .i64) 3 w' w.heap.size (fun k_ => some k_ ≠ (u7 : Value).ownBlock ∧ some k_ ≠ (u8 : Value).ownBlock ∧ k_ ≠ gb422 ∧ k_ ≠ gb425) s_.1 t435) ∧ (Kd.V k57 57 w' w.heap.size (fun k_ => some k_ ≠ (u7 : Value).ownBlock ∧ some k_ ≠ (u8 : Value).ownBlock ∧ k_ ≠ gb422 ∧ k_ ≠ gb425) s_.2 t438) ∧ (Kd.V (Kd.int .i64) 3 w' w.heap.size (fun k_ => some k_ ≠ (u7 : Value).ownBlock ∧ some k_ ≠ (u8 : Value).ownBlock ∧ k_ ≠ gb422 ∧ k_ ≠ gb425) (.slice Ao34 x426002_2.length co34) x426002_2) ∧ (Kd.V k57 57 w' w.heap.size (fun k_ => some k_ ≠ (u7 : Value).ownBlock ∧ some k_ ≠ (u8 : Value).ownBlock ∧ k_ ≠ gb422 ∧ k_ ≠ gb425) (.slice Ao35 x426003_2.length co35) x426003_2) ∧ (Kd.R (Kd.int .i64) 3 w' w.heap.size (fun k_ => some k_ ≠ (u8 : Value).ownBlock) u7 x7_2) ∧ (Kd.R (Kd.int .i64) 3 w' w.heap.size (fun k_ => some k_ ≠ (u7 : Value).ownBlock) u8 x8_2) ∧ (w'.heap[gb422]? = some (.cells #[.int .i64 a0_0, .int .i64 a0_1, .int .i64 a0_2, .int .i64 a0_3] 23 (0, 0))) ∧ (w'.heap[gb425]? = some (.cells #[.int .i64 x426000_2, .int .i64 x426001_2, .slice Ao34 x426002_2.length co34, .slice Ao35 x426003_2.length co35] 27 (0, 0))) ∧ (Below w.heap.size w w')) ?_ ?_
                                  rotate_left
                                  · intro hJ8
                                    refine join_ (σ := Nat) 7 #[true, true, true, true, true, true, true, true, false, false, false, false, true, false, false, false] (fun s_ => [(10, .pointer (some ⟨s_, 0, none⟩))]) (fun s_ w' => (w'.cell? ⟨gb422, 0, none⟩ = some (.int .i64 a0_0) ∧ w'.cell? ⟨gb422, 1, none⟩ = some (.int .i64 a0_1) ∧ w'.cell? ⟨gb422, 2, none⟩ = some (.int .i64 a0_2) ∧ w'.cell? ⟨gb422, 3, none⟩ = some (.int .i64 a0_3) ∧ w'.cell? ⟨gb425, 0, none⟩ = some (.int .i64 x426000_2) ∧ w'.cell? ⟨gb425, 1, none⟩ = some (.int .i64 x426001_2) ∧ w'.cell? ⟨gb425, 2, none⟩ = some (.slice Ao34 x426002_2.length co34) ∧ w'.cell? ⟨gb425, 3, none⟩ = some (.slice Ao35 x426003_2.length co35) ∧ w'.cell? (ad431.add ((x9_2).toNat * 2)) = some (.int .i64 ((rd_T45 l1 x9_2).f0)) ∧ w'.cell? ⟨(ad431.add ((x9_2).toNat * 2)).block, (ad431.add ((x9_2).toNat * 2)).off + 1, none⟩ = some (.int .i64 ((rd_T45 l1 x9_2).f1))) ∧ (Kd.V (Kd.int .i64) 3 w' w.heap.size (fun k_ => some k_ ≠ (u7 : Value).ownBlock ∧ some k_ ≠ (u8 : Value).ownBlock ∧ k_ ≠ gb422 ∧ k_ ≠ gb425 ∧ k_ ≠ s_) (.slice Ao34 x426002_2.length co34) x426002_2) ∧ (Kd.V k57 57 w' w.heap.size (fun k_ => some k_ ≠ (u7 : Value).ownBlock ∧ some k_ ≠ (u8 : Value).ownBlock ∧ k_ ≠ gb422 ∧ k_ ≠ gb425 ∧ k_ ≠ s_) (.slice Ao35 x426003_2.length co35) x426003_2) ∧ (Kd.R (Kd.int .i64) 3 w' w.heap.size (fun k_ => some k_ ≠ (u8 : Value).ownBlock) u7 x7_2) ∧ (Kd.R (Kd.int .i64) 3 w' w.heap.size (fun k_ => some k_ ≠ (u7 : Value).ownBlock) u8 x8_2) ∧ (w'.heap[gb422]? = some (.cells #[.int .i64 a0_0, .int .i64 a0_1, .int .i64 a0_2, .int .i64 a0_3] 23 (0, 0))) ∧ (w'.heap[gb425]? = some (.cells #[.int .i64 x426000_2, .int .i64 x426001_2, .slice Ao34 x426002_2.length co34, .slice Ao35 x426003_2.length co35] 27 (0, 0))) ∧ (w'.heap[s_]? = some (.cells #[.int .i64 0, .int .i64 0, .slice none 0 0, .slice none 0 0] 27 (0, 0))) ∧ (w.heap.size ≤ s_) ∧ (w.heap.size ≤ s_) ∧ (gb422 ≠ s_) ∧ (s_ ≠ gb422) ∧ (gb425 ≠ s_) ∧ (s_ ≠ gb425) ∧ (Below w.heap.size w w')) ?_ ?_
                                    rotate_left
                                    · intro hJ12
                                      refine join_ (σ := Nat) 7 #[true, true, true, true, true, true, true, true, false, false, false, false, false, true, false, false] (fun s_ => [(11, .pointer (some ⟨s_, 0, none⟩))]) (fun s_ w' => (w'.cell? ⟨gb422, 0, none⟩ = some (.int .i64 a0_0) ∧ w'.cell? ⟨gb422, 1, none⟩ = some (.int .i64 a0_1) ∧ w'.cell? ⟨gb422, 2, none⟩ = some (.int .i64 a0_2) ∧ w'.cell? ⟨gb422, 3, none⟩ = some (.int .i64 a0_3) ∧ w'.cell? ⟨gb425, 0, none⟩ = some (.int .i64 x426000_2) ∧ w'.cell? ⟨gb425, 1, none⟩ = some (.int .i64 x426001_2) ∧ w'.cell? ⟨gb425, 2, none⟩ = some (.slice Ao34 x426002_2.length co34) ∧ w'.cell? ⟨gb425, 3, none⟩ = some (.slice Ao35 x426003_2.length co35) ∧ w'.cell? (ad431.add ((x9_2).toNat * 2)) = some (.int .i64 ((rd_T45 l1 x9_2).f0)) ∧ w'.cell? ⟨(ad431.add ((x9_2).toNat * 2)).block, (ad431.add ((x9_2).toNat * 2)).off + 1, none⟩ = some (.int .i64 ((rd_T45 l1 x9_2).f1))) ∧ (Kd.V (Kd.int .i64) 3 w' w.heap.size (fun k_ => some k_ ≠ (u7 : Value).ownBlock ∧ some k_ ≠ (u8 : Value).ownBlock ∧ k_ ≠ gb422 ∧ k_ ≠ gb425 ∧ k_ ≠ s_) (.slice Ao34 x426002_2.length co34) x426002_2) ∧ (Kd.V k57 57 w' w.heap.size (fun k_ => some k_ ≠ (u7 : Value).ownBlock ∧ some k_ ≠ (u8 : Value).ownBlock ∧ k_ ≠ gb422 ∧ k_ ≠ gb425 ∧ k_ ≠ s_) (.slice Ao35 x426003_2.length co35) x426003_2) ∧ (Kd.R (Kd.int .i64) 3 w' w.heap.size (fun k_ => some k_ ≠ (u8 : Value).ownBlock) u7 x7_2) ∧ (Kd.R (Kd.int .i64) 3 w' w.heap.size (fun k_ => some k_ ≠ (u7 : Value).ownBlock) u8 x8_2) ∧ (w'.heap[gb422]? = some (.cells #[.int .i64 a0_0, .int .i64 a0_1, .int .i64 a0_2, .int .i64 a0_3] 23 (0, 0))) ∧ (w'.heap[gb425]? = some (.cells #[.int .i64 x426000_2, .int .i64 x426001_2, .slice Ao34 x426002_2.length co34, .slice Ao35 x426003_2.length co35] 27 (0, 0))) ∧ (w'.heap[s_]? = some (.cells #[.bool false, .int .i64 0, .int .i64 0, .int .i64 0] 32 (0, 0))) ∧ (w.heap.size ≤ s_) ∧ (w.heap.size ≤ s_) ∧ (gb422 ≠ s_) ∧ (s_ ≠ gb422) ∧ (gb425 ≠ s_) ∧ (s_ ≠ gb425) ∧ (Below w.heap.size w w')) ?_ ?_
                                      rotate_left
                                      · intro hJ13
                                        refine three_ (i := 8) (j := 12) (k := 13) (Ni := some 75) (Nj := some 10) (Nk := some 11) #[true, true, true, true, true, true, true, true, true, false, false, false, false, false, false, false] #[true, true, true, true, true, true, true, true, false, false, false, false, true, false, false, false] #[true, true, true, true, true, true, true, true, false, false, false, false, false, true, false, false] rfl rfl rfl rfl rfl rfl (three_of HT_.out (by kernel_rfl)) (by decide) (by decide) (by decide) (fun K hK => ?_) (fun K hK => ?_) (fun K hK => ?_)
                                        · skip
                                          refine goes_ Try.func10 (by kernel_rfl) rfl #[.agg #[.int .i64 a0_0, .int .i64 a0_1, .int .i64 a0_2, .int .i64 a0_3], .agg #[.int .i64 x426000_2, .int .i64 x426001_2, .slice Ao34 x426002_2.length co34, .slice Ao35 x426003_2.length co35], .int .i64 (wrap64 (x6_2 + ((rd_T45 l1 x9_2).f0))), .int .i64 ((rd_T45 l1 x9_2).f1)] (by rfl) rfl rfl (by (try simp only [List.map_toArray, List.map_cons, List.map_nil]); first | done | rfl | (simp only [List.length_drop, List.length_take]; rfl)) ?_
                                          with_reducible refine (gcra_Ask.calls kj20 a0_0 a0_1 a0_2 a0_3 x426000_2 x426001_2 (fun k_ => (some k_ ≠ (u7 : Value).ownBlock ∧ (some k_ ≠ (u8 : Value).ownBlock ∧ (k_ ≠ gb422 ∧ k_ ≠ gb425)))) _ _ x426002_2 (fun k_ => (some k_ ≠ (u7 : Value).ownBlock ∧ (some k_ ≠ (u8 : Value).ownBlock ∧ (k_ ≠ gb422 ∧ k_ ≠ gb425)))) _ _ x426003_2 (wrap64 (x6_2 + ((rd_T45 l1 x9_2).f0))) ((rd_T45 l1 x9_2).f1) t433 t434 t435 t438 t441 t442 t443 t444 _ ?side1 ?side2 A31.out).mono ?_
                                          (case side1 => exact HO_426002.out)
                                          (case side2 => exact HO_426003.out)
                                          rintro e w37 ⟨v436, v439, rfl, ho0, ho1, hb⟩
                                          refine ⟨_, rfl, ?_⟩
                                          have HO437 := Aside0.mk (Kd.V_lower (Kd.V_mono (ok' := fun k_ => some k_ ≠ (u7 : Value).ownBlock ∧ some k_ ≠ (u8 : Value).ownBlock ∧ k_ ≠ gb422 ∧ k_ ≠ gb425) ho0 (fun k_ hk_ => ⟨Or.elim hk_ (fun hs_ => Or.elim hs_ (fun hs_ => hs_.1) (fun hs_ => hs_.1)) (fun hn_ => (Kd.fresh' (Kd.R_lt (by (with_reducible repeat (first | apply Kd.R_alloc | apply Kd.R_drewN | apply Kd.R_drew)); exact HO_7.out)) k_ hn_)), Or.elim hk_ (fun hs_ => Or.elim hs_ (fun hs_ => hs_.2.1) (fun hs_ => hs_.2.1)) (fun hn_ => (Kd.fresh' (Kd.R_lt (by (with_reducible repeat (first | apply Kd.R_alloc | apply Kd.R_drewN | apply Kd.R_drew)); exact HO_8.out)) k_ hn_)), Or.elim hk_ (fun hs_ => Or.elim hs_ (fun hs_ => hs_.2.2.1) (fun hs_ => hs_.2.2.1)) (fun hn_ => (Kd.freshB (bo BK422) k_ hn_)), Or.elim hk_ (fun hs_ => Or.elim hs_ (fun hs_ => hs_.2.2.2) (fun hs_ => hs_.2.2.2)) (fun hn_ => (Kd.freshB (bo BK425) k_ hn_))⟩)) (below_size (bl HB)))
                                          have HO440 := Aside0.mk (Kd.V_lower (Kd.V_mono (ok' := fun k_ => some k_ ≠ (u7 : Value).ownBlock ∧ some k_ ≠ (u8 : Value).ownBlock ∧ k_ ≠ gb422 ∧ k_ ≠ gb425) ho1 (fun k_ hk_ => ⟨Or.elim hk_ (fun hs_ => Or.elim hs_ (fun hs_ => hs_.1) (fun hs_ => hs_.1)) (fun hn_ => (Kd.fresh' (Kd.R_lt (by (with_reducible repeat (first | apply Kd.R_alloc | apply Kd.R_drewN | apply Kd.R_drew)); exact HO_7.out)) k_ hn_)), Or.elim hk_ (fun hs_ => Or.elim hs_ (fun hs_ => hs_.2.1) (fun hs_ => hs_.2.1)) (fun hn_ => (Kd.fresh' (Kd.R_lt (by (with_reducible repeat (first | apply Kd.R_alloc | apply Kd.R_drewN | apply Kd.R_drew)); exact HO_8.out)) k_ hn_)), Or.elim hk_ (fun hs_ => Or.elim hs_ (fun hs_ => hs_.2.2.1) (fun hs_ => hs_.2.2.1)) (fun hn_ => (Kd.freshB (bo BK422) k_ hn_)), Or.elim hk_ (fun hs_ => Or.elim hs_ (fun hs_ => hs_.2.2.2) (fun hs_ => hs_.2.2.2)) (fun hn_ => (Kd.freshB (bo BK425) k_ hn_))⟩)) (below_size (bl HB)))
                                          replace HO_7 := Aside0.mk (Kd.R_below (by (with_reducible repeat (first | apply Kd.R_alloc | apply Kd.R_drewN | apply Kd.R_drew)); exact HO_7.out) hb)
                                          replace HO_8 := Aside0.mk (Kd.R_below (by (with_reducible repeat (first | apply Kd.R_alloc | apply Kd.R_drewN | apply Kd.R_drew)); exact HO_8.out) hb)
                                          replace HO_426002 := vb HO_426002 hb
                                          replace HO_426003 := vb HO_426003 hb
                                          replace BK422 := Aside0.mk (blk_below (bo BK422) hb)
                                          replace BK425 := Aside0.mk (blk_below (bo BK425) hb)
                                          replace HB := Aside0.mk (below_step (bl HB) hb)
                                          (try clear hb)
                                          (try clear hb2)
                                          (try clear hk)
                                          (try clear hi)
                                          (try clear ho0)
                                          (try clear ho1)
                                          refine hK.out _ _ ⟨(blk_cell BK422.out 0).trans rfl, (blk_cell BK422.out 1).trans rfl, (blk_cell BK422.out 2).trans rfl, (blk_cell BK422.out 3).trans rfl, (blk_cell BK425.out 0).trans rfl, (blk_cell BK425.out 1).trans rfl, (blk_cell BK425.out 2).trans rfl, (blk_cell BK425.out 3).trans rfl, ((HB.out.cell (World.block_lt_of_cell? w _ hw432_0)).trans hw432_0), ((HB.out.cell (World.block_lt_of_cell? w _ hw432_1)).trans hw432_1)⟩ (fun hHeld => ?_)
                                          clear hK K
                                          refine norm_ (a' := ?_) ?_ ?_
                                          rotate_left
                                          · show Act.put _ (some 75) _ = _
                                            simp only [Act.put, List.setIfInBounds_toArray, List.set_cons_zero, List.set_cons_succ, i64_w, i32_w]
                                            rfl
                                          refine pureA 9 66 HT_ ?_
                                          refine pureA 10 76 HT_ ?_
                                          refine pureA 11 77 HT_ ?_
                                          exact norm_ (by first | (simp only [putAll, Act.put, List.setIfInBounds_toArray, List.set_cons_zero, List.set_cons_succ]; done) | (simp only [putAll, Act.put, List.setIfInBounds_toArray, List.set_cons_zero, List.set_cons_succ]; rfl)) (hJ8 (v436, v439) _ ⟨hHeld, (by (with_reducible repeat (first | apply Kd.V_alloc | apply Kd.V_drewN | apply Kd.V_drew)); exact HO437.out), (by (with_reducible repeat (first | apply Kd.V_alloc | apply Kd.V_drewN | apply Kd.V_drew)); exact HO440.out), (by (with_reducible repeat (first | apply Kd.V_alloc | apply Kd.V_drewN | apply Kd.V_drew)); exact HO_426002.out), (by (with_reducible repeat (first | apply Kd.V_alloc | apply Kd.V_drewN | apply Kd.V_drew)); exact HO_426003.out), (by (with_reducible repeat (first | apply Kd.R_alloc | apply Kd.R_drewN | apply Kd.R_drew)); exact HO_7.out), (by (with_reducible repeat (first | apply Kd.R_alloc | apply Kd.R_drewN | apply Kd.R_drew)); exact HO_8.out), (bo BK422), (bo BK425), (bl HB)⟩)
                                        · skip
                                          refine box_step ?hg (N := 10) ?hd (cs := #[.int .i64 0, .int .i64 0, .slice none 0 0, .slice none 0 0]) (t := 27) ?hr ?_; (case hd => rfl); (case hg => rfl); (case hr => first | (go_simp; done) | (go_simp; rfl))
                                          intro gb445 hg w37 hbox hb
                                          have BK445 := Aside0.mk (hbox)
                                          have GW445 := Aside0.mk ((by rw [hg]; exact (below_size (bl HB)) : w.heap.size ≤ gb445))
                                          have GE445 := Aside0.mk ((by rw [hg]; exact (below_size (bl HB)) : w.heap.size ≤ gb445))
                                          have NB422_445 := nb BK422 hg
                                          have NB445_422 := bn BK422 hg
                                          have NB425_445 := nb BK425 hg
                                          have NB445_425 := bn BK425 hg
                                          replace HO_7 := Aside0.mk (Kd.R_below (by (with_reducible repeat (first | apply Kd.R_alloc | apply Kd.R_drewN | apply Kd.R_drew)); exact HO_7.out) hb)
                                          replace HO_8 := Aside0.mk (Kd.R_below (by (with_reducible repeat (first | apply Kd.R_alloc | apply Kd.R_drewN | apply Kd.R_drew)); exact HO_8.out) hb)
                                          replace HO_426002 := ve HO_426002 hg hb
                                          replace HO_426003 := ve HO_426003 hg hb
                                          replace BK422 := Aside0.mk (blk_below (bo BK422) hb)
                                          replace BK425 := Aside0.mk (blk_below (bo BK425) hb)
                                          replace HB := Aside0.mk (below_step (bl HB) hb)
                                          clear hb hbox hg
                                          refine hK.out _ _ ⟨(blk_cell BK422.out 0).trans rfl, (blk_cell BK422.out 1).trans rfl, (blk_cell BK422.out 2).trans rfl, (blk_cell BK422.out 3).trans rfl, (blk_cell BK425.out 0).trans rfl, (blk_cell BK425.out 1).trans rfl, (blk_cell BK425.out 2).trans rfl, (blk_cell BK425.out 3).trans rfl, ((HB.out.cell (World.block_lt_of_cell? w _ hw432_0)).trans hw432_0), ((HB.out.cell (World.block_lt_of_cell? w _ hw432_1)).trans hw432_1)⟩ (fun hHeld => ?_)
                                          clear hK K
                                          refine norm_ (a' := ?_) ?_ ?_
                                          rotate_left
                                          · show Act.put _ (some 10) _ = _
                                            simp only [Act.put, List.setIfInBounds_toArray, List.set_cons_zero, List.set_cons_succ, i64_w, i32_w]
                                            rfl
                                          exact norm_ (by first | (simp only [putAll, Act.put, List.setIfInBounds_toArray, List.set_cons_zero, List.set_cons_succ]; done) | (simp only [putAll, Act.put, List.setIfInBounds_toArray, List.set_cons_zero, List.set_cons_succ]; rfl)) (hJ12 (gb445) _ ⟨hHeld, (by (with_reducible repeat (first | apply Kd.V_alloc | apply Kd.V_drewN | apply Kd.V_drew)); exact Kd.V_mono HO_426002.out (fun _ hk => ⟨hk.1.1, ⟨hk.1.2.1, ⟨hk.1.2.2.1, ⟨hk.1.2.2.2, hk.2⟩⟩⟩⟩)), (by (with_reducible repeat (first | apply Kd.V_alloc | apply Kd.V_drewN | apply Kd.V_drew)); exact Kd.V_mono HO_426003.out (fun _ hk => ⟨hk.1.1, ⟨hk.1.2.1, ⟨hk.1.2.2.1, ⟨hk.1.2.2.2, hk.2⟩⟩⟩⟩)), (by (with_reducible repeat (first | apply Kd.R_alloc | apply Kd.R_drewN | apply Kd.R_drew)); exact HO_7.out), (by (with_reducible repeat (first | apply Kd.R_alloc | apply Kd.R_drewN | apply Kd.R_drew)); exact HO_8.out), (bo BK422), (bo BK425), (bo BK445), GW445.out, GE445.out, NB422_445.out, NB445_422.out, NB425_445.out, NB445_425.out, (bl HB)⟩)
                                        · skip
                                          refine box_step ?hg (N := 11) ?hd (cs := #[.bool false, .int .i64 0, .int .i64 0, .int .i64 0]) (t := 32) ?hr ?_; (case hd => rfl); (case hg => rfl); (case hr => first | (go_simp; done) | (go_simp; rfl))
                                          intro gb446 hg w37 hbox hb
                                          have BK446 := Aside0.mk (hbox)
                                          have GW446 := Aside0.mk ((by rw [hg]; exact (below_size (bl HB)) : w.heap.size ≤ gb446))
                                          have GE446 := Aside0.mk ((by rw [hg]; exact (below_size (bl HB)) : w.heap.size ≤ gb446))
                                          have NB422_446 := nb BK422 hg
                                          have NB446_422 := bn BK422 hg
                                          have NB425_446 := nb BK425 hg
                                          have NB446_425 := bn BK425 hg
                                          replace HO_7 := Aside0.mk (Kd.R_below (by (with_reducible repeat (first | apply Kd.R_alloc | apply Kd.R_drewN | apply Kd.R_drew)); exact HO_7.out) hb)
                                          replace HO_8 := Aside0.mk (Kd.R_below (by (with_reducible repeat (first | apply Kd.R_alloc | apply Kd.R_drewN | apply Kd.R_drew)); exact HO_8.out) hb)
                                          replace HO_426002 := ve HO_426002 hg hb
                                          replace HO_426003 := ve HO_426003 hg hb
                                          replace BK422 := Aside0.mk (blk_below (bo BK422) hb)
                                          replace BK425 := Aside0.mk (blk_below (bo BK425) hb)
                                          replace HB := Aside0.mk (below_step (bl HB) hb)
                                          clear hb hbox hg
                                          refine hK.out _ _ ⟨(blk_cell BK422.out 0).trans rfl, (blk_cell BK422.out 1).trans rfl, (blk_cell BK422.out 2).trans rfl, (blk_cell BK422.out 3).trans rfl, (blk_cell BK425.out 0).trans rfl, (blk_cell BK425.out 1).trans rfl, (blk_cell BK425.out 2).trans rfl, (blk_cell BK425.out 3).trans rfl, ((HB.out.cell (World.block_lt_of_cell? w _ hw432_0)).trans hw432_0), ((HB.out.cell (World.block_lt_of_cell? w _ hw432_1)).trans hw432_1)⟩ (fun hHeld => ?_)
                                          clear hK K
                                          refine norm_ (a' := ?_) ?_ ?_
                                          rotate_left
                                          · show Act.put _ (some 11) _ = _
                                            simp only [Act.put, List.setIfInBounds_toArray, List.set_cons_zero, List.set_cons_succ, i64_w, i32_w]
                                            rfl
                                          exact norm_ (by first | (simp only [putAll, Act.put, List.setIfInBounds_toArray, List.set_cons_zero, List.set_cons_succ]; done) | (simp only [putAll, Act.put, List.setIfInBounds_toArray, List.set_cons_zero, List.set_cons_succ]; rfl)) (hJ13 (gb446) _ ⟨hHeld, (by (with_reducible repeat (first | apply Kd.V_alloc | apply Kd.V_drewN | apply Kd.V_drew)); exact Kd.V_mono HO_426002.out (fun _ hk => ⟨hk.1.1, ⟨hk.1.2.1, ⟨hk.1.2.2.1, ⟨hk.1.2.2.2, hk.2⟩⟩⟩⟩)), (by (with_reducible repeat (first | apply Kd.V_alloc | apply Kd.V_drewN | apply Kd.V_drew)); exact Kd.V_mono HO_426003.out (fun _ hk => ⟨hk.1.1, ⟨hk.1.2.1, ⟨hk.1.2.2.1, ⟨hk.1.2.2.2, hk.2⟩⟩⟩⟩)), (by (with_reducible repeat (first | apply Kd.R_alloc | apply Kd.R_drewN | apply Kd.R_drew)); exact HO_7.out), (by (with_reducible repeat (first | apply Kd.R_alloc | apply Kd.R_drewN | apply Kd.R_drew)); exact HO_8.out), (bo BK422), (bo BK425), (bo BK446), GW446.out, GE446.out, NB422_446.out, NB446_422.out, NB425_446.out, NB446_425.out, (bl HB)⟩)
                                      · skip
                                        rintro gb446 w38 ⟨hS_, h0_, h1_, h2_, h3_, h4_, h5_, h6_, h7_, h8_, h9_, h10_, h11_, h12_, h13_⟩
                                        have BK446 : Aside0 (w38.heap[gb446]? = some (.cells #[.bool false, .int .i64 0, .int .i64 0, .int .i64 0] 32 (0, 0))) := ⟨h6_⟩
                                        have GW446 : Aside0 (w.heap.size ≤ gb446) := ⟨h7_⟩
                                        have GE446 : Aside0 (w.heap.size ≤ gb446) := ⟨h8_⟩
                                        have NB422_446 : Aside0 (gb422 ≠ gb446) := ⟨h9_⟩
                                        have NB446_422 : Aside0 (gb446 ≠ gb422) := ⟨h10_⟩
                                        have NB425_446 : Aside0 (gb425 ≠ gb446) := ⟨h11_⟩
                                        have NB446_425 : Aside0 (gb446 ≠ gb425) := ⟨h12_⟩
                                        replace HO_426002 : Aside0 (Kd.V (Kd.int .i64) 3 w38 w.heap.size (fun k_ => some k_ ≠ (u7 : Value).ownBlock ∧ some k_ ≠ (u8 : Value).ownBlock ∧ k_ ≠ gb422 ∧ k_ ≠ gb425 ∧ k_ ≠ gb446) (.slice Ao34 x426002_2.length co34) x426002_2) := ⟨h0_⟩
                                        replace HO_426003 : Aside0 (Kd.V k57 57 w38 w.heap.size (fun k_ => some k_ ≠ (u7 : Value).ownBlock ∧ some k_ ≠ (u8 : Value).ownBlock ∧ k_ ≠ gb422 ∧ k_ ≠ gb425 ∧ k_ ≠ gb446) (.slice Ao35 x426003_2.length co35) x426003_2) := ⟨h1_⟩
                                        replace HO_7 : Aside0 (Kd.R (Kd.int .i64) 3 w38 w.heap.size (fun k_ => some k_ ≠ (u8 : Value).ownBlock) u7 x7_2) := ⟨h2_⟩
                                        replace HO_8 : Aside0 (Kd.R (Kd.int .i64) 3 w38 w.heap.size (fun k_ => some k_ ≠ (u7 : Value).ownBlock) u8 x8_2) := ⟨h3_⟩
                                        replace BK422 : Aside0 (w38.heap[gb422]? = some (.cells #[.int .i64 a0_0, .int .i64 a0_1, .int .i64 a0_2, .int .i64 a0_3] 23 (0, 0))) := ⟨h4_⟩
                                        replace BK425 : Aside0 (w38.heap[gb425]? = some (.cells #[.int .i64 x426000_2, .int .i64 x426001_2, .slice Ao34 x426002_2.length co34, .slice Ao35 x426003_2.length co35] 27 (0, 0))) := ⟨h5_⟩
                                        replace HB : Aside0 (Below w.heap.size w w38) := ⟨h13_⟩
                                        clear h0_ h1_ h2_ h3_ h4_ h5_ h6_ h7_ h8_ h9_ h10_ h11_ h12_ h13_
                                        have hHeld : w38.cell? ⟨gb422, 0, none⟩ = some (.int .i64 a0_0) ∧ w38.cell? ⟨gb422, 1, none⟩ = some (.int .i64 a0_1) ∧ w38.cell? ⟨gb422, 2, none⟩ = some (.int .i64 a0_2) ∧ w38.cell? ⟨gb422, 3, none⟩ = some (.int .i64 a0_3) ∧ w38.cell? ⟨gb425, 0, none⟩ = some (.int .i64 x426000_2) ∧ w38.cell? ⟨gb425, 1, none⟩ = some (.int .i64 x426001_2) ∧ w38.cell? ⟨gb425, 2, none⟩ = some (.slice Ao34 x426002_2.length co34) ∧ w38.cell? ⟨gb425, 3, none⟩ = some (.slice Ao35 x426003_2.length co35) ∧ w38.cell? (ad431.add ((x9_2).toNat * 2)) = some (.int .i64 ((rd_T45 l1 x9_2).f0)) ∧ w38.cell? ⟨(ad431.add ((x9_2).toNat * 2)).block, (ad431.add ((x9_2).toNat * 2)).off + 1, none⟩ = some (.int .i64 ((rd_T45 l1 x9_2).f1)) := hS_
                                        refine norm_ (a' := ?_) ?_ ?_
                                        rotate_left
                                        · simp only [putAll, Act.put, List.setIfInBounds_toArray, List.set_cons_zero, List.set_cons_succ]
                                          rfl
                                        refine two_ (i := 8) (j := 12) (Ni := some 75) (Nj := some 10) #[true, true, true, true, true, true, true, true, true, false, false, false, false, true, false, false] #[true, true, true, true, true, true, true, true, false, false, false, false, true, true, false, false] rfl rfl rfl rfl (two_of HT_.out (by kernel_rfl)) (by decide) (by decide) (fun K hK => ?_) (fun K hK => ?_)
                                        · skip
                                          refine goes_ Try.func10 (by kernel_rfl) rfl #[.agg #[.int .i64 a0_0, .int .i64 a0_1, .int .i64 a0_2, .int .i64 a0_3], .agg #[.int .i64 x426000_2, .int .i64 x426001_2, .slice Ao34 x426002_2.length co34, .slice Ao35 x426003_2.length co35], .int .i64 (wrap64 (x6_2 + ((rd_T45 l1 x9_2).f0))), .int .i64 ((rd_T45 l1 x9_2).f1)] (by rfl) rfl rfl (by (try simp only [List.map_toArray, List.map_cons, List.map_nil]); first | done | rfl | (simp only [List.length_drop, List.length_take]; rfl)) ?_
                                          with_reducible refine (gcra_Ask.calls kj20 a0_0 a0_1 a0_2 a0_3 x426000_2 x426001_2 (fun k_ => (some k_ ≠ (u7 : Value).ownBlock ∧ (some k_ ≠ (u8 : Value).ownBlock ∧ (k_ ≠ gb422 ∧ (k_ ≠ gb425 ∧ k_ ≠ gb446))))) _ _ x426002_2 (fun k_ => (some k_ ≠ (u7 : Value).ownBlock ∧ (some k_ ≠ (u8 : Value).ownBlock ∧ (k_ ≠ gb422 ∧ (k_ ≠ gb425 ∧ k_ ≠ gb446))))) _ _ x426003_2 (wrap64 (x6_2 + ((rd_T45 l1 x9_2).f0))) ((rd_T45 l1 x9_2).f1) t433 t434 t435 t438 t441 t442 t443 t444 _ ?side1 ?side2 A31.out).mono ?_
                                          (case side1 => exact HO_426002.out)
                                          (case side2 => exact HO_426003.out)
                                          rintro e w39 ⟨v436, v439, rfl, ho0, ho1, hb⟩
                                          refine ⟨_, rfl, ?_⟩
                                          have HO437 := Aside0.mk (Kd.V_lower (Kd.V_mono (ok' := fun k_ => some k_ ≠ (u7 : Value).ownBlock ∧ some k_ ≠ (u8 : Value).ownBlock ∧ k_ ≠ gb422 ∧ k_ ≠ gb425 ∧ k_ ≠ gb446) ho0 (fun k_ hk_ => ⟨Or.elim hk_ (fun hs_ => Or.elim hs_ (fun hs_ => hs_.1) (fun hs_ => hs_.1)) (fun hn_ => (Kd.fresh' (Kd.R_lt (by (with_reducible repeat (first | apply Kd.R_alloc | apply Kd.R_drewN | apply Kd.R_drew)); exact HO_7.out)) k_ hn_)), Or.elim hk_ (fun hs_ => Or.elim hs_ (fun hs_ => hs_.2.1) (fun hs_ => hs_.2.1)) (fun hn_ => (Kd.fresh' (Kd.R_lt (by (with_reducible repeat (first | apply Kd.R_alloc | apply Kd.R_drewN | apply Kd.R_drew)); exact HO_8.out)) k_ hn_)), Or.elim hk_ (fun hs_ => Or.elim hs_ (fun hs_ => hs_.2.2.1) (fun hs_ => hs_.2.2.1)) (fun hn_ => (Kd.freshB (bo BK422) k_ hn_)), Or.elim hk_ (fun hs_ => Or.elim hs_ (fun hs_ => hs_.2.2.2.1) (fun hs_ => hs_.2.2.2.1)) (fun hn_ => (Kd.freshB (bo BK425) k_ hn_)), Or.elim hk_ (fun hs_ => Or.elim hs_ (fun hs_ => hs_.2.2.2.2) (fun hs_ => hs_.2.2.2.2)) (fun hn_ => (Kd.freshB (bo BK446) k_ hn_))⟩)) (below_size (bl HB)))
                                          have HO440 := Aside0.mk (Kd.V_lower (Kd.V_mono (ok' := fun k_ => some k_ ≠ (u7 : Value).ownBlock ∧ some k_ ≠ (u8 : Value).ownBlock ∧ k_ ≠ gb422 ∧ k_ ≠ gb425 ∧ k_ ≠ gb446) ho1 (fun k_ hk_ => ⟨Or.elim hk_ (fun hs_ => Or.elim hs_ (fun hs_ => hs_.1) (fun hs_ => hs_.1)) (fun hn_ => (Kd.fresh' (Kd.R_lt (by (with_reducible repeat (first | apply Kd.R_alloc | apply Kd.R_drewN | apply Kd.R_drew)); exact HO_7.out)) k_ hn_)), Or.elim hk_ (fun hs_ => Or.elim hs_ (fun hs_ => hs_.2.1) (fun hs_ => hs_.2.1)) (fun hn_ => (Kd.fresh' (Kd.R_lt (by (with_reducible repeat (first | apply Kd.R_alloc | apply Kd.R_drewN | apply Kd.R_drew)); exact HO_8.out)) k_ hn_)), Or.elim hk_ (fun hs_ => Or.elim hs_ (fun hs_ => hs_.2.2.1) (fun hs_ => hs_.2.2.1)) (fun hn_ => (Kd.freshB (bo BK422) k_ hn_)), Or.elim hk_ (fun hs_ => Or.elim hs_ (fun hs_ => hs_.2.2.2.1) (fun hs_ => hs_.2.2.2.1)) (fun hn_ => (Kd.freshB (bo BK425) k_ hn_)), Or.elim hk_ (fun hs_ => Or.elim hs_ (fun hs_ => hs_.2.2.2.2) (fun hs_ => hs_.2.2.2.2)) (fun hn_ => (Kd.freshB (bo BK446) k_ hn_))⟩)) (below_size (bl HB)))
                                          replace HO_7 := Aside0.mk (Kd.R_below (by (with_reducible repeat (first | apply Kd.R_alloc | apply Kd.R_drewN | apply Kd.R_drew)); exact HO_7.out) hb)
                                          replace HO_8 := Aside0.mk (Kd.R_below (by (with_reducible repeat (first | apply Kd.R_alloc | apply Kd.R_drewN | apply Kd.R_drew)); exact HO_8.out) hb)
                                          replace HO_426002 := vb HO_426002 hb
                                          replace HO_426003 := vb HO_426003 hb
                                          replace BK422 := Aside0.mk (blk_below (bo BK422) hb)
                                          replace BK425 := Aside0.mk (blk_below (bo BK425) hb)
                                          replace BK446 := Aside0.mk (blk_below (bo BK446) hb)
                                          replace HB := Aside0.mk (below_step (bl HB) hb)
                                          (try clear hb)
                                          (try clear hb2)
                                          (try clear hk)
                                          (try clear hi)
                                          (try clear ho0)
                                          (try clear ho1)
                                          refine hK.out _ _ ⟨(blk_cell BK422.out 0).trans rfl, (blk_cell BK422.out 1).trans rfl, (blk_cell BK422.out 2).trans rfl, (blk_cell BK422.out 3).trans rfl, (blk_cell BK425.out 0).trans rfl, (blk_cell BK425.out 1).trans rfl, (blk_cell BK425.out 2).trans rfl, (blk_cell BK425.out 3).trans rfl, ((HB.out.cell (World.block_lt_of_cell? w _ hw432_0)).trans hw432_0), ((HB.out.cell (World.block_lt_of_cell? w _ hw432_1)).trans hw432_1)⟩ (fun hHeld => ?_)
                                          clear hK K
                                          refine norm_ (a' := ?_) ?_ ?_
                                          rotate_left
                                          · show Act.put _ (some 75) _ = _
                                            simp only [Act.put, List.setIfInBounds_toArray, List.set_cons_zero, List.set_cons_succ, i64_w, i32_w]
                                            rfl
                                          refine pureA 9 66 HT_ ?_
                                          refine pureA 10 76 HT_ ?_
                                          refine pureA 11 77 HT_ ?_
                                          exact norm_ (by first | (simp only [putAll, Act.put, List.setIfInBounds_toArray, List.set_cons_zero, List.set_cons_succ]; done) | (simp only [putAll, Act.put, List.setIfInBounds_toArray, List.set_cons_zero, List.set_cons_succ]; rfl)) (hJ8_13 (v436, v439, gb446) _ ⟨hHeld, (by (with_reducible repeat (first | apply Kd.V_alloc | apply Kd.V_drewN | apply Kd.V_drew)); exact HO437.out), (by (with_reducible repeat (first | apply Kd.V_alloc | apply Kd.V_drewN | apply Kd.V_drew)); exact HO440.out), (by (with_reducible repeat (first | apply Kd.V_alloc | apply Kd.V_drewN | apply Kd.V_drew)); exact HO_426002.out), (by (with_reducible repeat (first | apply Kd.V_alloc | apply Kd.V_drewN | apply Kd.V_drew)); exact HO_426003.out), (by (with_reducible repeat (first | apply Kd.R_alloc | apply Kd.R_drewN | apply Kd.R_drew)); exact HO_7.out), (by (with_reducible repeat (first | apply Kd.R_alloc | apply Kd.R_drewN | apply Kd.R_drew)); exact HO_8.out), (bo BK422), (bo BK425), (bo BK446), GW446.out, GE446.out, NB422_446.out, NB446_422.out, NB425_446.out, NB446_425.out, (bl HB)⟩)
                                        · skip
                                          refine box_step ?hg (N := 10) ?hd (cs := #[.int .i64 0, .int .i64 0, .slice none 0 0, .slice none 0 0]) (t := 27) ?hr ?_; (case hd => rfl); (case hg => rfl); (case hr => first | (go_simp; done) | (go_simp; rfl))
                                          intro gb445 hg w39 hbox hb
                                          have BK445 := Aside0.mk (hbox)
                                          have GW445 := Aside0.mk ((by rw [hg]; exact (below_size (bl HB)) : w.heap.size ≤ gb445))
                                          have GE445 := Aside0.mk ((by rw [hg]; exact (below_size (bl HB)) : w.heap.size ≤ gb445))
                                          have NB422_445 := nb BK422 hg
                                          have NB445_422 := bn BK422 hg
                                          have NB425_445 := nb BK425 hg
                                          have NB445_425 := bn BK425 hg
                                          have NB446_445 := nb BK446 hg
                                          have NB445_446 := bn BK446 hg
                                          replace HO_7 := Aside0.mk (Kd.R_below (by (with_reducible repeat (first | apply Kd.R_alloc | apply Kd.R_drewN | apply Kd.R_drew)); exact HO_7.out) hb)
                                          replace HO_8 := Aside0.mk (Kd.R_below (by (with_reducible repeat (first | apply Kd.R_alloc | apply Kd.R_drewN | apply Kd.R_drew)); exact HO_8.out) hb)
                                          replace HO_426002 := ve HO_426002 hg hb
                                          replace HO_426003 := ve HO_426003 hg hb
                                          replace BK422 := Aside0.mk (blk_below (bo BK422) hb)
                                          replace BK425 := Aside0.mk (blk_below (bo BK425) hb)
                                          replace BK446 := Aside0.mk (blk_below (bo BK446) hb)
                                          replace HB := Aside0.mk (below_step (bl HB) hb)
                                          clear hb hbox hg
                                          refine hK.out _ _ ⟨(blk_cell BK422.out 0).trans rfl, (blk_cell BK422.out 1).trans rfl, (blk_cell BK422.out 2).trans rfl, (blk_cell BK422.out 3).trans rfl, (blk_cell BK425.out 0).trans rfl, (blk_cell BK425.out 1).trans rfl, (blk_cell BK425.out 2).trans rfl, (blk_cell BK425.out 3).trans rfl, ((HB.out.cell (World.block_lt_of_cell? w _ hw432_0)).trans hw432_0), ((HB.out.cell (World.block_lt_of_cell? w _ hw432_1)).trans hw432_1)⟩ (fun hHeld => ?_)
                                          clear hK K
                                          refine norm_ (a' := ?_) ?_ ?_
                                          rotate_left
                                          · show Act.put _ (some 10) _ = _
                                            simp only [Act.put, List.setIfInBounds_toArray, List.set_cons_zero, List.set_cons_succ, i64_w, i32_w]
                                            rfl
                                          exact norm_ (by first | (simp only [putAll, Act.put, List.setIfInBounds_toArray, List.set_cons_zero, List.set_cons_succ]; done) | (simp only [putAll, Act.put, List.setIfInBounds_toArray, List.set_cons_zero, List.set_cons_succ]; rfl)) (hJ12_13 (gb445, gb446) _ ⟨hHeld, (by (with_reducible repeat (first | apply Kd.V_alloc | apply Kd.V_drewN | apply Kd.V_drew)); exact Kd.V_mono HO_426002.out (fun _ hk => ⟨hk.1.1, ⟨hk.1.2.1, ⟨hk.1.2.2.1, ⟨hk.1.2.2.2.1, ⟨hk.2, hk.1.2.2.2.2⟩⟩⟩⟩⟩)), (by (with_reducible repeat (first | apply Kd.V_alloc | apply Kd.V_drewN | apply Kd.V_drew)); exact Kd.V_mono HO_426003.out (fun _ hk => ⟨hk.1.1, ⟨hk.1.2.1, ⟨hk.1.2.2.1, ⟨hk.1.2.2.2.1, ⟨hk.2, hk.1.2.2.2.2⟩⟩⟩⟩⟩)), (by (with_reducible repeat (first | apply Kd.R_alloc | apply Kd.R_drewN | apply Kd.R_drew)); exact HO_7.out), (by (with_reducible repeat (first | apply Kd.R_alloc | apply Kd.R_drewN | apply Kd.R_drew)); exact HO_8.out), (bo BK422), (bo BK425), (bo BK445), (bo BK446), GW445.out, GE445.out, NB422_445.out, NB445_422.out, NB425_445.out, NB445_425.out, NB446_445.out, NB445_446.out, GW446.out, GE446.out, NB422_446.out, NB446_422.out, NB425_446.out, NB446_425.out, (bl HB)⟩)
                                    · skip
                                      rintro gb445 w38 ⟨hS_, h0_, h1_, h2_, h3_, h4_, h5_, h6_, h7_, h8_, h9_, h10_, h11_, h12_, h13_⟩
                                      have BK445 : Aside0 (w38.heap[gb445]? = some (.cells #[.int .i64 0, .int .i64 0, .slice none 0 0, .slice none 0 0] 27 (0, 0))) := ⟨h6_⟩
                                      have GW445 : Aside0 (w.heap.size ≤ gb445) := ⟨h7_⟩
                                      have GE445 : Aside0 (w.heap.size ≤ gb445) := ⟨h8_⟩
                                      have NB422_445 : Aside0 (gb422 ≠ gb445) := ⟨h9_⟩
                                      have NB445_422 : Aside0 (gb445 ≠ gb422) := ⟨h10_⟩
                                      have NB425_445 : Aside0 (gb425 ≠ gb445) := ⟨h11_⟩
                                      have NB445_425 : Aside0 (gb445 ≠ gb425) := ⟨h12_⟩
                                      replace HO_426002 : Aside0 (Kd.V (Kd.int .i64) 3 w38 w.heap.size (fun k_ => some k_ ≠ (u7 : Value).ownBlock ∧ some k_ ≠ (u8 : Value).ownBlock ∧ k_ ≠ gb422 ∧ k_ ≠ gb425 ∧ k_ ≠ gb445) (.slice Ao34 x426002_2.length co34) x426002_2) := ⟨h0_⟩
                                      replace HO_426003 : Aside0 (Kd.V k57 57 w38 w.heap.size (fun k_ => some k_ ≠ (u7 : Value).ownBlock ∧ some k_ ≠ (u8 : Value).ownBlock ∧ k_ ≠ gb422 ∧ k_ ≠ gb425 ∧ k_ ≠ gb445) (.slice Ao35 x426003_2.length co35) x426003_2) := ⟨h1_⟩
                                      replace HO_7 : Aside0 (Kd.R (Kd.int .i64) 3 w38 w.heap.size (fun k_ => some k_ ≠ (u8 : Value).ownBlock) u7 x7_2) := ⟨h2_⟩
                                      replace HO_8 : Aside0 (Kd.R (Kd.int .i64) 3 w38 w.heap.size (fun k_ => some k_ ≠ (u7 : Value).ownBlock) u8 x8_2) := ⟨h3_⟩
                                      replace BK422 : Aside0 (w38.heap[gb422]? = some (.cells #[.int .i64 a0_0, .int .i64 a0_1, .int .i64 a0_2, .int .i64 a0_3] 23 (0, 0))) := ⟨h4_⟩
                                      replace BK425 : Aside0 (w38.heap[gb425]? = some (.cells #[.int .i64 x426000_2, .int .i64 x426001_2, .slice Ao34 x426002_2.length co34, .slice Ao35 x426003_2.length co35] 27 (0, 0))) := ⟨h5_⟩
                                      replace HB : Aside0 (Below w.heap.size w w38) := ⟨h13_⟩
                                      clear h0_ h1_ h2_ h3_ h4_ h5_ h6_ h7_ h8_ h9_ h10_ h11_ h12_ h13_
                                      have hHeld : w38.cell? ⟨gb422, 0, none⟩ = some (.int .i64 a0_0) ∧ w38.cell? ⟨gb422, 1, none⟩ = some (.int .i64 a0_1) ∧ w38.cell? ⟨gb422, 2, none⟩ = some (.int .i64 a0_2) ∧ w38.cell? ⟨gb422, 3, none⟩ = some (.int .i64 a0_3) ∧ w38.cell? ⟨gb425, 0, none⟩ = some (.int .i64 x426000_2) ∧ w38.cell? ⟨gb425, 1, none⟩ = some (.int .i64 x426001_2) ∧ w38.cell? ⟨gb425, 2, none⟩ = some (.slice Ao34 x426002_2.length co34) ∧ w38.cell? ⟨gb425, 3, none⟩ = some (.slice Ao35 x426003_2.length co35) ∧ w38.cell? (ad431.add ((x9_2).toNat * 2)) = some (.int .i64 ((rd_T45 l1 x9_2).f0)) ∧ w38.cell? ⟨(ad431.add ((x9_2).toNat * 2)).block, (ad431.add ((x9_2).toNat * 2)).off + 1, none⟩ = some (.int .i64 ((rd_T45 l1 x9_2).f1)) := hS_
                                      refine norm_ (a' := ?_) ?_ ?_
                                      rotate_left
                                      · simp only [putAll, Act.put, List.setIfInBounds_toArray, List.set_cons_zero, List.set_cons_succ]
                                        rfl
                                      refine two_ (i := 8) (j := 13) (Ni := some 75) (Nj := some 11) #[true, true, true, true, true, true, true, true, true, false, false, false, true, false, false, false] #[true, true, true, true, true, true, true, true, false, false, false, false, true, true, false, false] rfl rfl rfl rfl (two_of HT_.out (by kernel_rfl)) (by decide) (by decide) (fun K hK => ?_) (fun K hK => ?_)
                                      · skip
                                        refine goes_ Try.func10 (by kernel_rfl) rfl #[.agg #[.int .i64 a0_0, .int .i64 a0_1, .int .i64 a0_2, .int .i64 a0_3], .agg #[.int .i64 x426000_2, .int .i64 x426001_2, .slice Ao34 x426002_2.length co34, .slice Ao35 x426003_2.length co35], .int .i64 (wrap64 (x6_2 + ((rd_T45 l1 x9_2).f0))), .int .i64 ((rd_T45 l1 x9_2).f1)] (by rfl) rfl rfl (by (try simp only [List.map_toArray, List.map_cons, List.map_nil]); first | done | rfl | (simp only [List.length_drop, List.length_take]; rfl)) ?_
                                        with_reducible refine (gcra_Ask.calls kj20 a0_0 a0_1 a0_2 a0_3 x426000_2 x426001_2 (fun k_ => (some k_ ≠ (u7 : Value).ownBlock ∧ (some k_ ≠ (u8 : Value).ownBlock ∧ (k_ ≠ gb422 ∧ (k_ ≠ gb425 ∧ k_ ≠ gb445))))) _ _ x426002_2 (fun k_ => (some k_ ≠ (u7 : Value).ownBlock ∧ (some k_ ≠ (u8 : Value).ownBlock ∧ (k_ ≠ gb422 ∧ (k_ ≠ gb425 ∧ k_ ≠ gb445))))) _ _ x426003_2 (wrap64 (x6_2 + ((rd_T45 l1 x9_2).f0))) ((rd_T45 l1 x9_2).f1) t433 t434 t435 t438 t441 t442 t443 t444 _ ?side1 ?side2 A31.out).mono ?_
                                        (case side1 => exact HO_426002.out)
                                        (case side2 => exact HO_426003.out)
                                        rintro e w39 ⟨v436, v439, rfl, ho0, ho1, hb⟩
                                        refine ⟨_, rfl, ?_⟩
                                        have HO437 := Aside0.mk (Kd.V_lower (Kd.V_mono (ok' := fun k_ => some k_ ≠ (u7 : Value).ownBlock ∧ some k_ ≠ (u8 : Value).ownBlock ∧ k_ ≠ gb422 ∧ k_ ≠ gb425 ∧ k_ ≠ gb445) ho0 (fun k_ hk_ => ⟨Or.elim hk_ (fun hs_ => Or.elim hs_ (fun hs_ => hs_.1) (fun hs_ => hs_.1)) (fun hn_ => (Kd.fresh' (Kd.R_lt (by (with_reducible repeat (first | apply Kd.R_alloc | apply Kd.R_drewN | apply Kd.R_drew)); exact HO_7.out)) k_ hn_)), Or.elim hk_ (fun hs_ => Or.elim hs_ (fun hs_ => hs_.2.1) (fun hs_ => hs_.2.1)) (fun hn_ => (Kd.fresh' (Kd.R_lt (by (with_reducible repeat (first | apply Kd.R_alloc | apply Kd.R_drewN | apply Kd.R_drew)); exact HO_8.out)) k_ hn_)), Or.elim hk_ (fun hs_ => Or.elim hs_ (fun hs_ => hs_.2.2.1) (fun hs_ => hs_.2.2.1)) (fun hn_ => (Kd.freshB (bo BK422) k_ hn_)), Or.elim hk_ (fun hs_ => Or.elim hs_ (fun hs_ => hs_.2.2.2.1) (fun hs_ => hs_.2.2.2.1)) (fun hn_ => (Kd.freshB (bo BK425) k_ hn_)), Or.elim hk_ (fun hs_ => Or.elim hs_ (fun hs_ => hs_.2.2.2.2) (fun hs_ => hs_.2.2.2.2)) (fun hn_ => (Kd.freshB (bo BK445) k_ hn_))⟩)) (below_size (bl HB)))
                                        have HO440 := Aside0.mk (Kd.V_lower (Kd.V_mono (ok' := fun k_ => some k_ ≠ (u7 : Value).ownBlock ∧ some k_ ≠ (u8 : Value).ownBlock ∧ k_ ≠ gb422 ∧ k_ ≠ gb425 ∧ k_ ≠ gb445) ho1 (fun k_ hk_ => ⟨Or.elim hk_ (fun hs_ => Or.elim hs_ (fun hs_ => hs_.1) (fun hs_ => hs_.1)) (fun hn_ => (Kd.fresh' (Kd.R_lt (by (with_reducible repeat (first | apply Kd.R_alloc | apply Kd.R_drewN | apply Kd.R_drew)); exact HO_7.out)) k_ hn_)), Or.elim hk_ (fun hs_ => Or.elim hs_ (fun hs_ => hs_.2.1) (fun hs_ => hs_.2.1)) (fun hn_ => (Kd.fresh' (Kd.R_lt (by (with_reducible repeat (first | apply Kd.R_alloc | apply Kd.R_drewN | apply Kd.R_drew)); exact HO_8.out)) k_ hn_)), Or.elim hk_ (fun hs_ => Or.elim hs_ (fun hs_ => hs_.2.2.1) (fun hs_ => hs_.2.2.1)) (fun hn_ => (Kd.freshB (bo BK422) k_ hn_)), Or.elim hk_ (fun hs_ => Or.elim hs_ (fun hs_ => hs_.2.2.2.1) (fun hs_ => hs_.2.2.2.1)) (fun hn_ => (Kd.freshB (bo BK425) k_ hn_)), Or.elim hk_ (fun hs_ => Or.elim hs_ (fun hs_ => hs_.2.2.2.2) (fun hs_ => hs_.2.2.2.2)) (fun hn_ => (Kd.freshB (bo BK445) k_ hn_))⟩)) (below_size (bl HB)))
                                        replace HO_7 := Aside0.mk (Kd.R_below (by (with_reducible repeat (first | apply Kd.R_alloc | apply Kd.R_drewN | apply Kd.R_drew)); exact HO_7.out) hb)
                                        replace HO_8 := Aside0.mk (Kd.R_below (by (with_reducible repeat (first | apply Kd.R_alloc | apply Kd.R_drewN | apply Kd.R_drew)); exact HO_8.out) hb)
                                        replace HO_426002 := vb HO_426002 hb
                                        replace HO_426003 := vb HO_426003 hb
                                        replace BK422 := Aside0.mk (blk_below (bo BK422) hb)
                                        replace BK425 := Aside0.mk (blk_below (bo BK425) hb)
                                        replace BK445 := Aside0.mk (blk_below (bo BK445) hb)
                                        replace HB := Aside0.mk (below_step (bl HB) hb)
                                        (try clear hb)
                                        (try clear hb2)
                                        (try clear hk)
                                        (try clear hi)
                                        (try clear ho0)
                                        (try clear ho1)
                                        refine hK.out _ _ ⟨(blk_cell BK422.out 0).trans rfl, (blk_cell BK422.out 1).trans rfl, (blk_cell BK422.out 2).trans rfl, (blk_cell BK422.out 3).trans rfl, (blk_cell BK425.out 0).trans rfl, (blk_cell BK425.out 1).trans rfl, (blk_cell BK425.out 2).trans rfl, (blk_cell BK425.out 3).trans rfl, ((HB.out.cell (World.block_lt_of_cell? w _ hw432_0)).trans hw432_0), ((HB.out.cell (World.block_lt_of_cell? w _ hw432_1)).trans hw432_1)⟩ (fun hHeld => ?_)
                                        clear hK K
                                        refine norm_ (a' := ?_) ?_ ?_
                                        rotate_left
                                        · show Act.put _ (some 75) _ = _
                                          simp only [Act.put, List.setIfInBounds_toArray, List.set_cons_zero, List.set_cons_succ, i64_w, i32_w]
                                          rfl
                                        refine pureA 9 66 HT_ ?_
                                        refine pureA 10 76 HT_ ?_
                                        refine pureA 11 77 HT_ ?_
                                        exact norm_ (by first | (simp only [putAll, Act.put, List.setIfInBounds_toArray, List.set_cons_zero, List.set_cons_succ]; done) | (simp only [putAll, Act.put, List.setIfInBounds_toArray, List.set_cons_zero, List.set_cons_succ]; rfl)) (hJ8_12 (v436, v439, gb445) _ ⟨hHeld, (by (with_reducible repeat (first | apply Kd.V_alloc | apply Kd.V_drewN | apply Kd.V_drew)); exact HO437.out), (by (with_reducible repeat (first | apply Kd.V_alloc | apply Kd.V_drewN | apply Kd.V_drew)); exact HO440.out), (by (with_reducible repeat (first | apply Kd.V_alloc | apply Kd.V_drewN | apply Kd.V_drew)); exact HO_426002.out), (by (with_reducible repeat (first | apply Kd.V_alloc | apply Kd.V_drewN | apply Kd.V_drew)); exact HO_426003.out), (by (with_reducible repeat (first | apply Kd.R_alloc | apply Kd.R_drewN | apply Kd.R_drew)); exact HO_7.out), (by (with_reducible repeat (first | apply Kd.R_alloc | apply Kd.R_drewN | apply Kd.R_drew)); exact HO_8.out), (bo BK422), (bo BK425), (bo BK445), GW445.out, GE445.out, NB422_445.out, NB445_422.out, NB425_445.out, NB445_425.out, (bl HB)⟩)
                                      · skip
                                        refine box_step ?hg (N := 11) ?hd (cs := #[.bool false, .int .i64 0, .int .i64 0, .int .i64 0]) (t := 32) ?hr ?_; (case hd => rfl); (case hg => rfl); (case hr => first | (go_simp; done) | (go_simp; rfl))
                                        intro gb446 hg w39 hbox hb
                                        have BK446 := Aside0.mk (hbox)
                                        have GW446 := Aside0.mk ((by rw [hg]; exact (below_size (bl HB)) : w.heap.size ≤ gb446))
                                        have GE446 := Aside0.mk ((by rw [hg]; exact (below_size (bl HB)) : w.heap.size ≤ gb446))
                                        have NB422_446 := nb BK422 hg
                                        have NB446_422 := bn BK422 hg
                                        have NB425_446 := nb BK425 hg
                                        have NB446_425 := bn BK425 hg
                                        have NB445_446 := nb BK445 hg
                                        have NB446_445 := bn BK445 hg
                                        replace HO_7 := Aside0.mk (Kd.R_below (by (with_reducible repeat (first | apply Kd.R_alloc | apply Kd.R_drewN | apply Kd.R_drew)); exact HO_7.out) hb)
                                        replace HO_8 := Aside0.mk (Kd.R_below (by (with_reducible repeat (first | apply Kd.R_alloc | apply Kd.R_drewN | apply Kd.R_drew)); exact HO_8.out) hb)
                                        replace HO_426002 := ve HO_426002 hg hb
                                        replace HO_426003 := ve HO_426003 hg hb
                                        replace BK422 := Aside0.mk (blk_below (bo BK422) hb)
                                        replace BK425 := Aside0.mk (blk_below (bo BK425) hb)
                                        replace BK445 := Aside0.mk (blk_below (bo BK445) hb)
                                        replace HB := Aside0.mk (below_step (bl HB) hb)
                                        clear hb hbox hg
                                        refine hK.out _ _ ⟨(blk_cell BK422.out 0).trans rfl, (blk_cell BK422.out 1).trans rfl, (blk_cell BK422.out 2).trans rfl, (blk_cell BK422.out 3).trans rfl, (blk_cell BK425.out 0).trans rfl, (blk_cell BK425.out 1).trans rfl, (blk_cell BK425.out 2).trans rfl, (blk_cell BK425.out 3).trans rfl, ((HB.out.cell (World.block_lt_of_cell? w _ hw432_0)).trans hw432_0), ((HB.out.cell (World.block_lt_of_cell? w _ hw432_1)).trans hw432_1)⟩ (fun hHeld => ?_)
                                        clear hK K
                                        refine norm_ (a' := ?_) ?_ ?_
                                        rotate_left
                                        · show Act.put _ (some 11) _ = _
                                          simp only [Act.put, List.setIfInBounds_toArray, List.set_cons_zero, List.set_cons_succ, i64_w, i32_w]
                                          rfl
                                        exact norm_ (by first | (simp only [putAll, Act.put, List.setIfInBounds_toArray, List.set_cons_zero, List.set_cons_succ]; done) | (simp only [putAll, Act.put, List.setIfInBounds_toArray, List.set_cons_zero, List.set_cons_succ]; rfl)) (hJ12_13 (gb445, gb446) _ ⟨hHeld, (by (with_reducible repeat (first | apply Kd.V_alloc | apply Kd.V_drewN | apply Kd.V_drew)); exact Kd.V_mono HO_426002.out (fun _ hk => ⟨hk.1.1, ⟨hk.1.2.1, ⟨hk.1.2.2.1, ⟨hk.1.2.2.2.1, ⟨hk.1.2.2.2.2, hk.2⟩⟩⟩⟩⟩)), (by (with_reducible repeat (first | apply Kd.V_alloc | apply Kd.V_drewN | apply Kd.V_drew)); exact Kd.V_mono HO_426003.out (fun _ hk => ⟨hk.1.1, ⟨hk.1.2.1, ⟨hk.1.2.2.1, ⟨hk.1.2.2.2.1, ⟨hk.1.2.2.2.2, hk.2⟩⟩⟩⟩⟩)), (by (with_reducible repeat (first | apply Kd.R_alloc | apply Kd.R_drewN | apply Kd.R_drew)); exact HO_7.out), (by (with_reducible repeat (first | apply Kd.R_alloc | apply Kd.R_drewN | apply Kd.R_drew)); exact HO_8.out), (bo BK422), (bo BK425), (bo BK445), (bo BK446), GW445.out, GE445.out, NB422_445.out, NB445_422.out, NB425_445.out, NB445_425.out, NB446_445.out, NB445_446.out, GW446.out, GE446.out, NB422_446.out, NB446_422.out, NB425_446.out, NB446_425.out, (bl HB)⟩)
                                  · skip
                                    rintro ⟨v436, v439⟩ w38 ⟨hS_, h0_, h1_, h2_, h3_, h4_, h5_, h6_, h7_, h8_⟩
                                    have HO437 : Aside0 (Kd.V (Kd.int .i64) 3 w38 w.heap.size (fun k_ => some k_ ≠ (u7 : Value).ownBlock ∧ some k_ ≠ (u8 : Value).ownBlock ∧ k_ ≠ gb422 ∧ k_ ≠ gb425) v436 t435) := ⟨h0_⟩
                                    have HO440 : Aside0 (Kd.V k57 57 w38 w.heap.size (fun k_ => some k_ ≠ (u7 : Value).ownBlock ∧ some k_ ≠ (u8 : Value).ownBlock ∧ k_ ≠ gb422 ∧ k_ ≠ gb425) v439 t438) := ⟨h1_⟩
                                    replace HO_426002 : Aside0 (Kd.V (Kd.int .i64) 3 w38 w.heap.size (fun k_ => some k_ ≠ (u7 : Value).ownBlock ∧ some k_ ≠ (u8 : Value).ownBlock ∧ k_ ≠ gb422 ∧ k_ ≠ gb425) (.slice Ao34 x426002_2.length co34) x426002_2) := ⟨h2_⟩
                                    replace HO_426003 : Aside0 (Kd.V k57 57 w38 w.heap.size (fun k_ => some k_ ≠ (u7 : Value).ownBlock ∧ some k_ ≠ (u8 : Value).ownBlock ∧ k_ ≠ gb422 ∧ k_ ≠ gb425) (.slice Ao35 x426003_2.length co35) x426003_2) := ⟨h3_⟩
                                    replace HO_7 : Aside0 (Kd.R (Kd.int .i64) 3 w38 w.heap.size (fun k_ => some k_ ≠ (u8 : Value).ownBlock) u7 x7_2) := ⟨h4_⟩
                                    replace HO_8 : Aside0 (Kd.R (Kd.int .i64) 3 w38 w.heap.size (fun k_ => some k_ ≠ (u7 : Value).ownBlock) u8 x8_2) := ⟨h5_⟩
                                    replace BK422 : Aside0 (w38.heap[gb422]? = some (.cells #[.int .i64 a0_0, .int .i64 a0_1, .int .i64 a0_2, .int .i64 a0_3] 23 (0, 0))) := ⟨h6_⟩
                                    replace BK425 : Aside0 (w38.heap[gb425]? = some (.cells #[.int .i64 x426000_2, .int .i64 x426001_2, .slice Ao34 x426002_2.length co34, .slice Ao35 x426003_2.length co35] 27 (0, 0))) := ⟨h7_⟩
                                    replace HB : Aside0 (Below w.heap.size w w38) := ⟨h8_⟩
                                    clear h0_ h1_ h2_ h3_ h4_ h5_ h6_ h7_ h8_
                                    have hHeld : w38.cell? ⟨gb422, 0, none⟩ = some (.int .i64 a0_0) ∧ w38.cell? ⟨gb422, 1, none⟩ = some (.int .i64 a0_1) ∧ w38.cell? ⟨gb422, 2, none⟩ = some (.int .i64 a0_2) ∧ w38.cell? ⟨gb422, 3, none⟩ = some (.int .i64 a0_3) ∧ w38.cell? ⟨gb425, 0, none⟩ = some (.int .i64 x426000_2) ∧ w38.cell? ⟨gb425, 1, none⟩ = some (.int .i64 x426001_2) ∧ w38.cell? ⟨gb425, 2, none⟩ = some (.slice Ao34 x426002_2.length co34) ∧ w38.cell? ⟨gb425, 3, none⟩ = some (.slice Ao35 x426003_2.length co35) ∧ w38.cell? (ad431.add ((x9_2).toNat * 2)) = some (.int .i64 ((rd_T45 l1 x9_2).f0)) ∧ w38.cell? ⟨(ad431.add ((x9_2).toNat * 2)).block, (ad431.add ((x9_2).toNat * 2)).off + 1, none⟩ = some (.int .i64 ((rd_T45 l1 x9_2).f1)) := hS_
                                    refine norm_ (a' := ?_) ?_ ?_
                                    rotate_left
                                    · simp only [putAll, Act.put, List.setIfInBounds_toArray, List.set_cons_zero, List.set_cons_succ]
                                      rfl
                                    refine two_ (i := 12) (j := 13) (Ni := some 10) (Nj := some 11) #[true, true, true, true, true, true, true, true, true, true, true, true, true, false, false, false] #[true, true, true, true, true, true, true, true, true, true, true, true, false, true, false, false] rfl rfl rfl rfl (two_of HT_.out (by kernel_rfl)) (by decide) (by decide) (fun K hK => ?_) (fun K hK => ?_)
                                    · skip
                                      refine box_step ?hg (N := 10) ?hd (cs := #[.int .i64 0, .int .i64 0, .slice none 0 0, .slice none 0 0]) (t := 27) ?hr ?_; (case hd => rfl); (case hg => rfl); (case hr => first | (go_simp; done) | (go_simp; rfl))
                                      intro gb445 hg w39 hbox hb
                                      have BK445 := Aside0.mk (hbox)
                                      have GW445 := Aside0.mk ((by rw [hg]; exact (below_size (bl HB)) : w.heap.size ≤ gb445))
                                      have GE445 := Aside0.mk ((by rw [hg]; exact (below_size (bl HB)) : w.heap.size ≤ gb445))
                                      have NB422_445 := nb BK422 hg
                                      have NB445_422 := bn BK422 hg
                                      have NB425_445 := nb BK425 hg
                                      have NB445_425 := bn BK425 hg
                                      replace HO_7 := Aside0.mk (Kd.R_below (by (with_reducible repeat (first | apply Kd.R_alloc | apply Kd.R_drewN | apply Kd.R_drew)); exact HO_7.out) hb)
                                      replace HO_8 := Aside0.mk (Kd.R_below (by (with_reducible repeat (first | apply Kd.R_alloc | apply Kd.R_drewN | apply Kd.R_drew)); exact HO_8.out) hb)
                                      replace HO_426002 := ve HO_426002 hg hb
                                      replace HO_426003 := ve HO_426003 hg hb
                                      replace HO437 := ve HO437 hg hb
                                      replace HO440 := ve HO440 hg hb
                                      replace BK422 := Aside0.mk (blk_below (bo BK422) hb)
                                      replace BK425 := Aside0.mk (blk_below (bo BK425) hb)
                                      replace HB := Aside0.mk (below_step (bl HB) hb)
                                      clear hb hbox hg
                                      refine hK.out _ _ ⟨(blk_cell BK422.out 0).trans rfl, (blk_cell BK422.out 1).trans rfl, (blk_cell BK422.out 2).trans rfl, (blk_cell BK422.out 3).trans rfl, (blk_cell BK425.out 0).trans rfl, (blk_cell BK425.out 1).trans rfl, (blk_cell BK425.out 2).trans rfl, (blk_cell BK425.out 3).trans rfl, ((HB.out.cell (World.block_lt_of_cell? w _ hw432_0)).trans hw432_0), ((HB.out.cell (World.block_lt_of_cell? w _ hw432_1)).trans hw432_1)⟩ (fun hHeld => ?_)
                                      clear hK K
                                      refine norm_ (a' := ?_) ?_ ?_
                                      rotate_left
                                      · show Act.put _ (some 10) _ = _
                                        simp only [Act.put, List.setIfInBounds_toArray, List.set_cons_zero, List.set_cons_succ, i64_w, i32_w]
                                        rfl
                                      exact norm_ (by first | (simp only [putAll, Act.put, List.setIfInBounds_toArray, List.set_cons_zero, List.set_cons_succ]; done) | (simp only [putAll, Act.put, List.setIfInBounds_toArray, List.set_cons_zero, List.set_cons_succ]; rfl)) (hJ8_12 (v436, v439, gb445) _ ⟨hHeld, (by (with_reducible repeat (first | apply Kd.V_alloc | apply Kd.V_drewN | apply Kd.V_drew)); exact Kd.V_mono HO437.out (fun _ hk => ⟨hk.1.1, ⟨hk.1.2.1, ⟨hk.1.2.2.1, ⟨hk.1.2.2.2, hk.2⟩⟩⟩⟩)), (by (with_reducible repeat (first | apply Kd.V_alloc | apply Kd.V_drewN | apply Kd.V_drew)); exact Kd.V_mono HO440.out (fun _ hk => ⟨hk.1.1, ⟨hk.1.2.1, ⟨hk.1.2.2.1, ⟨hk.1.2.2.2, hk.2⟩⟩⟩⟩)), (by (with_reducible repeat (first | apply Kd.V_alloc | apply Kd.V_drewN | apply Kd.V_drew)); exact Kd.V_mono HO_426002.out (fun _ hk => ⟨hk.1.1, ⟨hk.1.2.1, ⟨hk.1.2.2.1, ⟨hk.1.2.2.2, hk.2⟩⟩⟩⟩)), (by (with_reducible repeat (first | apply Kd.V_alloc | apply Kd.V_drewN | apply Kd.V_drew)); exact Kd.V_mono HO_426003.out (fun _ hk => ⟨hk.1.1, ⟨hk.1.2.1, ⟨hk.1.2.2.1, ⟨hk.1.2.2.2, hk.2⟩⟩⟩⟩)), (by (with_reducible repeat (first | apply Kd.R_alloc | apply Kd.R_drewN | apply Kd.R_drew)); exact HO_7.out), (by (with_reducible repeat (first | apply Kd.R_alloc | apply Kd.R_drewN | apply Kd.R_drew)); exact HO_8.out), (bo BK422), (bo BK425), (bo BK445), GW445.out, GE445.out, NB422_445.out, NB445_422.out, NB425_445.out, NB445_425.out, (bl HB)⟩)
                                    · skip
                                      refine box_step ?hg (N := 11) ?hd (cs := #[.bool false, .int .i64 0, .int .i64 0, .int .i64 0]) (t := 32) ?hr ?_; (case hd => rfl); (case hg => rfl); (case hr => first | (go_simp; done) | (go_simp; rfl))
                                      intro gb446 hg w39 hbox hb
                                      have BK446 := Aside0.mk (hbox)
                                      have GW446 := Aside0.mk ((by rw [hg]; exact (below_size (bl HB)) : w.heap.size ≤ gb446))
                                      have GE446 := Aside0.mk ((by rw [hg]; exact (below_size (bl HB)) : w.heap.size ≤ gb446))
                                      have NB422_446 := nb BK422 hg
                                      have NB446_422 := bn BK422 hg
                                      have NB425_446 := nb BK425 hg
                                      have NB446_425 := bn BK425 hg
                                      replace HO_7 := Aside0.mk (Kd.R_below (by (with_reducible repeat (first | apply Kd.R_alloc | apply Kd.R_drewN | apply Kd.R_drew)); exact HO_7.out) hb)
                                      replace HO_8 := Aside0.mk (Kd.R_below (by (with_reducible repeat (first | apply Kd.R_alloc | apply Kd.R_drewN | apply Kd.R_drew)); exact HO_8.out) hb)
                                      replace HO_426002 := ve HO_426002 hg hb
                                      replace HO_426003 := ve HO_426003 hg hb
                                      replace HO437 := ve HO437 hg hb
                                      replace HO440 := ve HO440 hg hb
                                      replace BK422 := Aside0.mk (blk_below (bo BK422) hb)
                                      replace BK425 := Aside0.mk (blk_below (bo BK425) hb)
                                      replace HB := Aside0.mk (below_step (bl HB) hb)
                                      clear hb hbox hg
                                      refine hK.out _ _ ⟨(blk_cell BK422.out 0).trans rfl, (blk_cell BK422.out 1).trans rfl, (blk_cell BK422.out 2).trans rfl, (blk_cell BK422.out 3).trans rfl, (blk_cell BK425.out 0).trans rfl, (blk_cell BK425.out 1).trans rfl, (blk_cell BK425.out 2).trans rfl, (blk_cell BK425.out 3).trans rfl, ((HB.out.cell (World.block_lt_of_cell? w _ hw432_0)).trans hw432_0), ((HB.out.cell (World.block_lt_of_cell? w _ hw432_1)).trans hw432_1)⟩ (fun hHeld => ?_)
                                      clear hK K
                                      refine norm_ (a' := ?_) ?_ ?_
                                      rotate_left
                                      · show Act.put _ (some 11) _ = _
                                        simp only [Act.put, List.setIfInBounds_toArray, List.set_cons_zero, List.set_cons_succ, i64_w, i32_w]
                                        rfl
                                      exact norm_ (by first | (simp only [putAll, Act.put, List.setIfInBounds_toArray, List.set_cons_zero, List.set_cons_succ]; done) | (simp only [putAll, Act.put, List.setIfInBounds_toArray, List.set_cons_zero, List.set_cons_succ]; rfl)) (hJ8_13 (v436, v439, gb446) _ ⟨hHeld, (by (with_reducible repeat (first | apply Kd.V_alloc | apply Kd.V_drewN | apply Kd.V_drew)); exact Kd.V_mono HO437.out (fun _ hk => ⟨hk.1.1, ⟨hk.1.2.1, ⟨hk.1.2.2.1, ⟨hk.1.2.2.2, hk.2⟩⟩⟩⟩)), (by (with_reducible repeat (first | apply Kd.V_alloc | apply Kd.V_drewN | apply Kd.V_drew)); exact Kd.V_mono HO440.out (fun _ hk => ⟨hk.1.1, ⟨hk.1.2.1, ⟨hk.1.2.2.1, ⟨hk.1.2.2.2, hk.2⟩⟩⟩⟩)), (by (with_reducible repeat (first | apply Kd.V_alloc | apply Kd.V_drewN | apply Kd.V_drew)); exact Kd.V_mono HO_426002.out (fun _ hk => ⟨hk.1.1, ⟨hk.1.2.1, ⟨hk.1.2.2.1, ⟨hk.1.2.2.2, hk.2⟩⟩⟩⟩)), (by (with_reducible repeat (first | apply Kd.V_alloc | apply Kd.V_drewN | apply Kd.V_drew)); exact Kd.V_mono HO_426003.out (fun _ hk => ⟨hk.1.1, ⟨hk.1.2.1, ⟨hk.1.2.2.1, ⟨hk.1.2.2.2, hk.2⟩⟩⟩⟩)), (by (with_reducible repeat (first | apply Kd.R_alloc | apply Kd.R_drewN | apply Kd.R_drew)); exact HO_7.out), (by (with_reducible repeat (first | apply Kd.R_alloc | apply Kd.R_drewN | apply Kd.R_drew)); exact HO_8.out), (bo BK422), (bo BK425), (bo BK446), GW446.out, GE446.out, NB422_446.out, NB446_422.out, NB425_446.out, NB446_425.out, (bl HB)⟩)
                                · skip
                                  rintro ⟨gb445, gb446⟩ w39 ⟨hS_, h0_, h1_, h2_, h3_, h4_, h5_, h6_, h7_, h8_, h9_, h10_, h11_, h12_, h13_, h14_, h15_, h16_, h17_, h18_, h19_, h20_, h21_, h22_⟩
                                  have BK445 : Aside0 (w39.heap[gb445]? = some (.cells #[.int .i64 0, .int .i64 0, .slice none 0 0, .slice none 0 0] 27 (0, 0))) := ⟨h6_⟩
                                  have BK446 : Aside0 (w39.heap[gb446]? = some (.cells #[.bool false, .int .i64 0, .int .i64 0, .int .i64 0] 32 (0, 0))) := ⟨h7_⟩
                                  have GW445 : Aside0 (w.heap.size ≤ gb445) := ⟨h8_⟩
                                  have GE445 : Aside0 (w.heap.size ≤ gb445) := ⟨h9_⟩
                                  have NB422_445 : Aside0 (gb422 ≠ gb445) := ⟨h10_⟩
                                  have NB445_422 : Aside0 (gb445 ≠ gb422) := ⟨h11_⟩
                                  have NB425_445 : Aside0 (gb425 ≠ gb445) := ⟨h12_⟩
                                  have NB445_425 : Aside0 (gb445 ≠ gb425) := ⟨h13_⟩
                                  have NB446_445 : Aside0 (gb446 ≠ gb445) := ⟨h14_⟩
                                  have NB445_446 : Aside0 (gb445 ≠ gb446) := ⟨h15_⟩
                                  have GW446 : Aside0 (w.heap.size ≤ gb446) := ⟨h16_⟩
                                  have GE446 : Aside0 (w.heap.size ≤ gb446) := ⟨h17_⟩
                                  have NB422_446 : Aside0 (gb422 ≠ gb446) := ⟨h18_⟩
                                  have NB446_422 : Aside0 (gb446 ≠ gb422) := ⟨h19_⟩
                                  have NB425_446 : Aside0 (gb425 ≠ gb446) := ⟨h20_⟩
                                  have NB446_425 : Aside0 (gb446 ≠ gb425) := ⟨h21_⟩
                                  replace HO_426002 : Aside0 (Kd.V (Kd.int .i64) 3 w39 w.heap.size (fun k_ => some k_ ≠ (u7 : Value).ownBlock ∧ some k_ ≠ (u8 : Value).ownBlock ∧ k_ ≠ gb422 ∧ k_ ≠ gb425 ∧ k_ ≠ gb445 ∧ k_ ≠ gb446) (.slice Ao34 x426002_2.length co34) x426002_2) := ⟨h0_⟩
                                  replace HO_426003 : Aside0 (Kd.V k57 57 w39 w.heap.size (fun k_ => some k_ ≠ (u7 : Value).ownBlock ∧ some k_ ≠ (u8 : Value).ownBlock ∧ k_ ≠ gb422 ∧ k_ ≠ gb425 ∧ k_ ≠ gb445 ∧ k_ ≠ gb446) (.slice Ao35 x426003_2.length co35) x426003_2) := ⟨h1_⟩
                                  replace HO_7 : Aside0 (Kd.R (Kd.int .i64) 3 w39 w.heap.size (fun k_ => some k_ ≠ (u8 : Value).ownBlock) u7 x7_2) := ⟨h2_⟩
                                  replace HO_8 : Aside0 (Kd.R (Kd.int .i64) 3 w39 w.heap.size (fun k_ => some k_ ≠ (u7 : Value).ownBlock) u8 x8_2) := ⟨h3_⟩
                                  replace BK422 : Aside0 (w39.heap[gb422]? = some (.cells #[.int .i64 a0_0, .int .i64 a0_1, .int .i64 a0_2, .int .i64 a0_3] 23 (0, 0))) := ⟨h4_⟩
                                  replace BK425 : Aside0 (w39.heap[gb425]? = some (.cells #[.int .i64 x426000_2, .int .i64 x426001_2, .slice Ao34 x426002_2.length co34, .slice Ao35 x426003_2.length co35] 27 (0, 0))) := ⟨h5_⟩
                                  replace HB : Aside0 (Below w.heap.size w w39) := ⟨h22_⟩
                                  clear h0_ h1_ h2_ h3_ h4_ h5_ h6_ h7_ h8_ h9_ h10_ h11_ h12_ h13_ h14_ h15_ h16_ h17_ h18_ h19_ h20_ h21_ h22_
                                  have hHeld : w39.cell? ⟨gb422, 0, none⟩ = some (.int .i64 a0_0) ∧ w39.cell? ⟨gb422, 1, none⟩ = some (.int .i64 a0_1) ∧ w39.cell? ⟨gb422, 2, none⟩ = some (.int .i64 a0_2) ∧ w39.cell? ⟨gb422, 3, none⟩ = some (.int .i64 a0_3) ∧ w39.cell? ⟨gb425, 0, none⟩ = some (.int .i64 x426000_2) ∧ w39.cell? ⟨gb425, 1, none⟩ = some (.int .i64 x426001_2) ∧ w39.cell? ⟨gb425, 2, none⟩ = some (.slice Ao34 x426002_2.length co34) ∧ w39.cell? ⟨gb425, 3, none⟩ = some (.slice Ao35 x426003_2.length co35) ∧ w39.cell? (ad431.add ((x9_2).toNat * 2)) = some (.int .i64 ((rd_T45 l1 x9_2).f0)) ∧ w39.cell? ⟨(ad431.add ((x9_2).toNat * 2)).block, (ad431.add ((x9_2).toNat * 2)).off + 1, none⟩ = some (.int .i64 ((rd_T45 l1 x9_2).f1)) := hS_
                                  refine norm_ (a' := ?_) ?_ ?_
                                  rotate_left
                                  · simp only [putAll, Act.put, List.setIfInBounds_toArray, List.set_cons_zero, List.set_cons_succ]
                                    rfl
                                  refine one_ (i := 8) (N := some 75) #[true, true, true, true, true, true, true, true, true, false, false, false, true, true, false, false] rfl rfl (one_of HT_.out (by kernel_rfl)) (by decide) (fun K hK => ?_)
                                  refine goes_ Try.func10 (by kernel_rfl) rfl #[.agg #[.int .i64 a0_0, .int .i64 a0_1, .int .i64 a0_2, .int .i64 a0_3], .agg #[.int .i64 x426000_2, .int .i64 x426001_2, .slice Ao34 x426002_2.length co34, .slice Ao35 x426003_2.length co35], .int .i64 (wrap64 (x6_2 + ((rd_T45 l1 x9_2).f0))), .int .i64 ((rd_T45 l1 x9_2).f1)] (by rfl) rfl rfl (by (try simp only [List.map_toArray, List.map_cons, List.map_nil]); first | done | rfl | (simp only [List.length_drop, List.length_take]; rfl)) ?_
                                  with_reducible refine (gcra_Ask.calls kj20 a0_0 a0_1 a0_2 a0_3 x426000_2 x426001_2 (fun k_ => (some k_ ≠ (u7 : Value).ownBlock ∧ (some k_ ≠ (u8 : Value).ownBlock ∧ (k_ ≠ gb422 ∧ (k_ ≠ gb425 ∧ (k_ ≠ gb445 ∧ k_ ≠ gb446)))))) _ _ x426002_2 (fun k_ => (some k_ ≠ (u7 : Value).ownBlock ∧ (some k_ ≠ (u8 : Value).ownBlock ∧ (k_ ≠ gb422 ∧ (k_ ≠ gb425 ∧ (k_ ≠ gb445 ∧ k_ ≠ gb446)))))) _ _ x426003_2 (wrap64 (x6_2 + ((rd_T45 l1 x9_2).f0))) ((rd_T45 l1 x9_2).f1) t433 t434 t435 t438 t441 t442 t443 t444 _ ?side1 ?side2 A31.out).mono ?_
                                  (case side1 => exact HO_426002.out)
                                  (case side2 => exact HO_426003.out)
                                  rintro e w40 ⟨v436, v439, rfl, ho0, ho1, hb⟩
                                  refine ⟨_, rfl, ?_⟩
                                  have HO437 := Aside0.mk (Kd.V_lower (Kd.V_mono (ok' := fun k_ => some k_ ≠ (u7 : Value).ownBlock ∧ some k_ ≠ (u8 : Value).ownBlock ∧ k_ ≠ gb422 ∧ k_ ≠ gb425 ∧ k_ ≠ gb445 ∧ k_ ≠ gb446) ho0 (fun k_ hk_ => ⟨Or.elim hk_ (fun hs_ => Or.elim hs_ (fun hs_ => hs_.1) (fun hs_ => hs_.1)) (fun hn_ => (Kd.fresh' (Kd.R_lt (by (with_reducible repeat (first | apply Kd.R_alloc | apply Kd.R_drewN | apply Kd.R_drew)); exact HO_7.out)) k_ hn_)), Or.elim hk_ (fun hs_ => Or.elim hs_ (fun hs_ => hs_.2.1) (fun hs_ => hs_.2.1)) (fun hn_ => (Kd.fresh' (Kd.R_lt (by (with_reducible repeat (first | apply Kd.R_alloc | apply Kd.R_drewN | apply Kd.R_drew)); exact HO_8.out)) k_ hn_)), Or.elim hk_ (fun hs_ => Or.elim hs_ (fun hs_ => hs_.2.2.1) (fun hs_ => hs_.2.2.1)) (fun hn_ => (Kd.freshB (bo BK422) k_ hn_)), Or.elim hk_ (fun hs_ => Or.elim hs_ (fun hs_ => hs_.2.2.2.1) (fun hs_ => hs_.2.2.2.1)) (fun hn_ => (Kd.freshB (bo BK425) k_ hn_)), Or.elim hk_ (fun hs_ => Or.elim hs_ (fun hs_ => hs_.2.2.2.2.1) (fun hs_ => hs_.2.2.2.2.1)) (fun hn_ => (Kd.freshB (bo BK445) k_ hn_)), Or.elim hk_ (fun hs_ => Or.elim hs_ (fun hs_ => hs_.2.2.2.2.2) (fun hs_ => hs_.2.2.2.2.2)) (fun hn_ => (Kd.freshB (bo BK446) k_ hn_))⟩)) (below_size (bl HB)))
                                  have HO440 := Aside0.mk (Kd.V_lower (Kd.V_mono (ok' := fun k_ => some k_ ≠ (u7 : Value).ownBlock ∧ some k_ ≠ (u8 : Value).ownBlock ∧ k_ ≠ gb422 ∧ k_ ≠ gb425 ∧ k_ ≠ gb445 ∧ k_ ≠ gb446) ho1 (fun k_ hk_ => ⟨Or.elim hk_ (fun hs_ => Or.elim hs_ (fun hs_ => hs_.1) (fun hs_ => hs_.1)) (fun hn_ => (Kd.fresh' (Kd.R_lt (by (with_reducible repeat (first | apply Kd.R_alloc | apply Kd.R_drewN | apply Kd.R_drew)); exact HO_7.out)) k_ hn_)), Or.elim hk_ (fun hs_ => Or.elim hs_ (fun hs_ => hs_.2.1) (fun hs_ => hs_.2.1)) (fun hn_ => (Kd.fresh' (Kd.R_lt (by (with_reducible repeat (first | apply Kd.R_alloc | apply Kd.R_drewN | apply Kd.R_drew)); exact HO_8.out)) k_ hn_)), Or.elim hk_ (fun hs_ => Or.elim hs_ (fun hs_ => hs_.2.2.1) (fun hs_ => hs_.2.2.1)) (fun hn_ => (Kd.freshB (bo BK422) k_ hn_)), Or.elim hk_ (fun hs_ => Or.elim hs_ (fun hs_ => hs_.2.2.2.1) (fun hs_ => hs_.2.2.2.1)) (fun hn_ => (Kd.freshB (bo BK425) k_ hn_)), Or.elim hk_ (fun hs_ => Or.elim hs_ (fun hs_ => hs_.2.2.2.2.1) (fun hs_ => hs_.2.2.2.2.1)) (fun hn_ => (Kd.freshB (bo BK445) k_ hn_)), Or.elim hk_ (fun hs_ => Or.elim hs_ (fun hs_ => hs_.2.2.2.2.2) (fun hs_ => hs_.2.2.2.2.2)) (fun hn_ => (Kd.freshB (bo BK446) k_ hn_))⟩)) (below_size (bl HB)))
                                  replace HO_7 := Aside0.mk (Kd.R_below (by (with_reducible repeat (first | apply Kd.R_alloc | apply Kd.R_drewN | apply Kd.R_drew)); exact HO_7.out) hb)
                                  replace HO_8 := Aside0.mk (Kd.R_below (by (with_reducible repeat (first | apply Kd.R_alloc | apply Kd.R_drewN | apply Kd.R_drew)); exact HO_8.out) hb)
                                  replace HO_426002 := vb HO_426002 hb
                                  replace HO_426003 := vb HO_426003 hb
                                  replace BK422 := Aside0.mk (blk_below (bo BK422) hb)
                                  replace BK425 := Aside0.mk (blk_below (bo BK425) hb)
                                  replace BK445 := Aside0.mk (blk_below (bo BK445) hb)
                                  replace BK446 := Aside0.mk (blk_below (bo BK446) hb)
                                  replace HB := Aside0.mk (below_step (bl HB) hb)
                                  (try clear hb)
                                  (try clear hb2)
                                  (try clear hk)
                                  (try clear hi)
                                  (try clear ho0)
                                  (try clear ho1)
                                  refine hK.out _ _ ⟨(blk_cell BK422.out 0).trans rfl, (blk_cell BK422.out 1).trans rfl, (blk_cell BK422.out 2).trans rfl, (blk_cell BK422.out 3).trans rfl, (blk_cell BK425.out 0).trans rfl, (blk_cell BK425.out 1).trans rfl, (blk_cell BK425.out 2).trans rfl, (blk_cell BK425.out 3).trans rfl, ((HB.out.cell (World.block_lt_of_cell? w _ hw432_0)).trans hw432_0), ((HB.out.cell (World.block_lt_of_cell? w _ hw432_1)).trans hw432_1)⟩ (fun hHeld => ?_)
                                  clear hK K
                                  refine norm_ (a' := ?_) ?_ ?_
                                  rotate_left
                                  · show Act.put _ (some 75) _ = _
                                    simp only [Act.put, List.setIfInBounds_toArray, List.set_cons_zero, List.set_cons_succ, i64_w, i32_w]
                                    rfl
                                  refine pureA 9 66 HT_ ?_
                                  refine pureA 10 76 HT_ ?_
                                  refine pureA 11 77 HT_ ?_
                                  exact norm_ (by first | (simp only [putAll, Act.put, List.setIfInBounds_toArray, List.set_cons_zero, List.set_cons_succ]; done) | (simp only [putAll, Act.put, List.setIfInBounds_toArray, List.set_cons_zero, List.set_cons_succ]; rfl)) (hJ8_12_13 (v436, v439, gb445, gb446) _ ⟨hHeld, (by (with_reducible repeat (first | apply Kd.V_alloc | apply Kd.V_drewN | apply Kd.V_drew)); exact HO437.out), (by (with_reducible repeat (first | apply Kd.V_alloc | apply Kd.V_drewN | apply Kd.V_drew)); exact HO440.out), (by (with_reducible repeat (first | apply Kd.V_alloc | apply Kd.V_drewN | apply Kd.V_drew)); exact HO_426002.out), (by (with_reducible repeat (first | apply Kd.V_alloc | apply Kd.V_drewN | apply Kd.V_drew)); exact HO_426003.out), (by (with_reducible repeat (first | apply Kd.R_alloc | apply Kd.R_drewN | apply Kd.R_drew)); exact HO_7.out), (by (with_reducible repeat (first | apply Kd.R_alloc | apply Kd.R_drewN | apply Kd.R_drew)); exact HO_8.out), (bo BK422), (bo BK425), (bo BK445), (bo BK446), GW445.out, GE445.out, NB422_445.out, NB445_422.out, NB425_445.out, NB445_425.out, NB446_445.out, NB445_446.out, GW446.out, GE446.out, NB422_446.out, NB446_422.out, NB425_446.out, NB446_425.out, (bl HB)⟩)
                              · skip
                                rintro ⟨v436, v439, gb446⟩ w39 ⟨hS_, h0_, h1_, h2_, h3_, h4_, h5_, h6_, h7_, h8_, h9_, h10_, h11_, h12_, h13_, h14_, h15_⟩
                                have HO437 : Aside0 (Kd.V (Kd.int .i64) 3 w39 w.heap.size (fun k_ => some k_ ≠ (u7 : Value).ownBlock ∧ some k_ ≠ (u8 : Value).ownBlock ∧ k_ ≠ gb422 ∧ k_ ≠ gb425 ∧ k_ ≠ gb446) v436 t435) := ⟨h0_⟩
                                have HO440 : Aside0 (Kd.V k57 57 w39 w.heap.size (fun k_ => some k_ ≠ (u7 : Value).ownBlock ∧ some k_ ≠ (u8 : Value).ownBlock ∧ k_ ≠ gb422 ∧ k_ ≠ gb425 ∧ k_ ≠ gb446) v439 t438) := ⟨h1_⟩
                                have BK446 : Aside0 (w39.heap[gb446]? = some (.cells #[.bool false, .int .i64 0, .int .i64 0, .int .i64 0] 32 (0, 0))) := ⟨h8_⟩
                                have GW446 : Aside0 (w.heap.size ≤ gb446) := ⟨h9_⟩
                                have GE446 : Aside0 (w.heap.size ≤ gb446) := ⟨h10_⟩
                                have NB422_446 : Aside0 (gb422 ≠ gb446) := ⟨h11_⟩
                                have NB446_422 : Aside0 (gb446 ≠ gb422) := ⟨h12_⟩
                                have NB425_446 : Aside0 (gb425 ≠ gb446) := ⟨h13_⟩
                                have NB446_425 : Aside0 (gb446 ≠ gb425) := ⟨h14_⟩
                                replace HO_426002 : Aside0 (Kd.V (Kd.int .i64) 3 w39 w.heap.size (fun k_ => some k_ ≠ (u7 : Value).ownBlock ∧ some k_ ≠ (u8 : Value).ownBlock ∧ k_ ≠ gb422 ∧ k_ ≠ gb425 ∧ k_ ≠ gb446) (.slice Ao34 x426002_2.length co34) x426002_2) := ⟨h2_⟩
                                replace HO_426003 : Aside0 (Kd.V k57 57 w39 w.heap.size (fun k_ => some k_ ≠ (u7 : Value).ownBlock ∧ some k_ ≠ (u8 : Value).ownBlock ∧ k_ ≠ gb422 ∧ k_ ≠ gb425 ∧ k_ ≠ gb446) (.slice Ao35 x426003_2.length co35) x426003_2) := ⟨h3_⟩
                                replace HO_7 : Aside0 (Kd.R (Kd.int .i64) 3 w39 w.heap.size (fun k_ => some k_ ≠ (u8 : Value).ownBlock) u7 x7_2) := ⟨h4_⟩
                                replace HO_8 : Aside0 (Kd.R (Kd.int .i64) 3 w39 w.heap.size (fun k_ => some k_ ≠ (u7 : Value).ownBlock) u8 x8_2) := ⟨h5_⟩
                                replace BK422 : Aside0 (w39.heap[gb422]? = some (.cells #[.int .i64 a0_0, .int .i64 a0_1, .int .i64 a0_2, .int .i64 a0_3] 23 (0, 0))) := ⟨h6_⟩
                                replace BK425 : Aside0 (w39.heap[gb425]? = some (.cells #[.int .i64 x426000_2, .int .i64 x426001_2, .slice Ao34 x426002_2.length co34, .slice Ao35 x426003_2.length co35] 27 (0, 0))) := ⟨h7_⟩
                                replace HB : Aside0 (Below w.heap.size w w39) := ⟨h15_⟩
                                clear h0_ h1_ h2_ h3_ h4_ h5_ h6_ h7_ h8_ h9_ h10_ h11_ h12_ h13_ h14_ h15_
                                have hHeld : w39.cell? ⟨gb422, 0, none⟩ = some (.int .i64 a0_0) ∧ w39.cell? ⟨gb422, 1, none⟩ = some (.int .i64 a0_1) ∧ w39.cell? ⟨gb422, 2, none⟩ = some (.int .i64 a0_2) ∧ w39.cell? ⟨gb422, 3, none⟩ = some (.int .i64 a0_3) ∧ w39.cell? ⟨gb425, 0, none⟩ = some (.int .i64 x426000_2) ∧ w39.cell? ⟨gb425, 1, none⟩ = some (.int .i64 x426001_2) ∧ w39.cell? ⟨gb425, 2, none⟩ = some (.slice Ao34 x426002_2.length co34) ∧ w39.cell? ⟨gb425, 3, none⟩ = some (.slice Ao35 x426003_2.length co35) ∧ w39.cell? (ad431.add ((x9_2).toNat * 2)) = some (.int .i64 ((rd_T45 l1 x9_2).f0)) ∧ w39.cell? ⟨(ad431.add ((x9_2).toNat * 2)).block, (ad431.add ((x9_2).toNat * 2)).off + 1, none⟩ = some (.int .i64 ((rd_T45 l1 x9_2).f1)) := hS_
                                refine norm_ (a' := ?_) ?_ ?_
                                rotate_left
                                · simp only [putAll, Act.put, List.setIfInBounds_toArray, List.set_cons_zero, List.set_cons_succ]
                                  rfl
                                refine one_ (i := 12) (N := some 10) #[true, true, true, true, true, true, true, true, true, true, true, true, true, true, false, false] rfl rfl (one_of HT_.out (by kernel_rfl)) (by decide) (fun K hK => ?_)
                                refine box_step ?hg (N := 10) ?hd (cs := #[.int .i64 0, .int .i64 0, .slice none 0 0, .slice none 0 0]) (t := 27) ?hr ?_; (case hd => rfl); (case hg => rfl); (case hr => first | (go_simp; done) | (go_simp; rfl))
                                intro gb445 hg w40 hbox hb
                                have BK445 := Aside0.mk (hbox)
                                have GW445 := Aside0.mk ((by rw [hg]; exact (below_size (bl HB)) : w.heap.size ≤ gb445))
                                have GE445 := Aside0.mk ((by rw [hg]; exact (below_size (bl HB)) : w.heap.size ≤ gb445))
                                have NB422_445 := nb BK422 hg
                                have NB445_422 := bn BK422 hg
                                have NB425_445 := nb BK425 hg
                                have NB445_425 := bn BK425 hg
                                have NB446_445 := nb BK446 hg
                                have NB445_446 := bn BK446 hg
                                replace HO_7 := Aside0.mk (Kd.R_below (by (with_reducible repeat (first | apply Kd.R_alloc | apply Kd.R_drewN | apply Kd.R_drew)); exact HO_7.out) hb)
                                replace HO_8 := Aside0.mk (Kd.R_below (by (with_reducible repeat (first | apply Kd.R_alloc | apply Kd.R_drewN | apply Kd.R_drew)); exact HO_8.out) hb)
                                replace HO_426002 := ve HO_426002 hg hb
                                replace HO_426003 := ve HO_426003 hg hb
                                replace HO437 := ve HO437 hg hb
                                replace HO440 := ve HO440 hg hb
                                replace BK422 := Aside0.mk (blk_below (bo BK422) hb)
                                replace BK425 := Aside0.mk (blk_below (bo BK425) hb)
                                replace BK446 := Aside0.mk (blk_below (bo BK446) hb)
                                replace HB := Aside0.mk (below_step (bl HB) hb)
                                clear hb hbox hg
                                refine hK.out _ _ ⟨(blk_cell BK422.out 0).trans rfl, (blk_cell BK422.out 1).trans rfl, (blk_cell BK422.out 2).trans rfl, (blk_cell BK422.out 3).trans rfl, (blk_cell BK425.out 0).trans rfl, (blk_cell BK425.out 1).trans rfl, (blk_cell BK425.out 2).trans rfl, (blk_cell BK425.out 3).trans rfl, ((HB.out.cell (World.block_lt_of_cell? w _ hw432_0)).trans hw432_0), ((HB.out.cell (World.block_lt_of_cell? w _ hw432_1)).trans hw432_1)⟩ (fun hHeld => ?_)
                                clear hK K
                                refine norm_ (a' := ?_) ?_ ?_
                                rotate_left
                                · show Act.put _ (some 10) _ = _
                                  simp only [Act.put, List.setIfInBounds_toArray, List.set_cons_zero, List.set_cons_succ, i64_w, i32_w]
                                  rfl
                                exact norm_ (by first | (simp only [putAll, Act.put, List.setIfInBounds_toArray, List.set_cons_zero, List.set_cons_succ]; done) | (simp only [putAll, Act.put, List.setIfInBounds_toArray, List.set_cons_zero, List.set_cons_succ]; rfl)) (hJ8_12_13 (v436, v439, gb445, gb446) _ ⟨hHeld, (by (with_reducible repeat (first | apply Kd.V_alloc | apply Kd.V_drewN | apply Kd.V_drew)); exact Kd.V_mono HO437.out (fun _ hk => ⟨hk.1.1, ⟨hk.1.2.1, ⟨hk.1.2.2.1, ⟨hk.1.2.2.2.1, ⟨hk.2, hk.1.2.2.2.2⟩⟩⟩⟩⟩)), (by (with_reducible repeat (first | apply Kd.V_alloc | apply Kd.V_drewN | apply Kd.V_drew)); exact Kd.V_mono HO440.out (fun _ hk => ⟨hk.1.1, ⟨hk.1.2.1, ⟨hk.1.2.2.1, ⟨hk.1.2.2.2.1, ⟨hk.2, hk.1.2.2.2.2⟩⟩⟩⟩⟩)), (by (with_reducible repeat (first | apply Kd.V_alloc | apply Kd.V_drewN | apply Kd.V_drew)); exact Kd.V_mono HO_426002.out (fun _ hk => ⟨hk.1.1, ⟨hk.1.2.1, ⟨hk.1.2.2.1, ⟨hk.1.2.2.2.1, ⟨hk.2, hk.1.2.2.2.2⟩⟩⟩⟩⟩)), (by (with_reducible repeat (first | apply Kd.V_alloc | apply Kd.V_drewN | apply Kd.V_drew)); exact Kd.V_mono HO_426003.out (fun _ hk => ⟨hk.1.1, ⟨hk.1.2.1, ⟨hk.1.2.2.1, ⟨hk.1.2.2.2.1, ⟨hk.2, hk.1.2.2.2.2⟩⟩⟩⟩⟩)), (by (with_reducible repeat (first | apply Kd.R_alloc | apply Kd.R_drewN | apply Kd.R_drew)); exact HO_7.out), (by (with_reducible repeat (first | apply Kd.R_alloc | apply Kd.R_drewN | apply Kd.R_drew)); exact HO_8.out), (bo BK422), (bo BK425), (bo BK445), (bo BK446), GW445.out, GE445.out, NB422_445.out, NB445_422.out, NB425_445.out, NB445_425.out, NB446_445.out, NB445_446.out, GW446.out, GE446.out, NB422_446.out, NB446_422.out, NB425_446.out, NB446_425.out, (bl HB)⟩)
                            · skip
                              rintro ⟨v436, v439, gb445⟩ w39 ⟨hS_, h0_, h1_, h2_, h3_, h4_, h5_, h6_, h7_, h8_, h9_, h10_, h11_, h12_, h13_, h14_, h15_⟩
                              have HO437 : Aside0 (Kd.V (Kd.int .i64) 3 w39 w.heap.size (fun k_ => some k_ ≠ (u7 : Value).ownBlock ∧ some k_ ≠ (u8 : Value).ownBlock ∧ k_ ≠ gb422 ∧ k_ ≠ gb425 ∧ k_ ≠ gb445) v436 t435) := ⟨h0_⟩
                              have HO440 : Aside0 (Kd.V k57 57 w39 w.heap.size (fun k_ => some k_ ≠ (u7 : Value).ownBlock ∧ some k_ ≠ (u8 : Value).ownBlock ∧ k_ ≠ gb422 ∧ k_ ≠ gb425 ∧ k_ ≠ gb445) v439 t438) := ⟨h1_⟩
                              have BK445 : Aside0 (w39.heap[gb445]? = some (.cells #[.int .i64 0, .int .i64 0, .slice none 0 0, .slice none 0 0] 27 (0, 0))) := ⟨h8_⟩
                              have GW445 : Aside0 (w.heap.size ≤ gb445) := ⟨h9_⟩
                              have GE445 : Aside0 (w.heap.size ≤ gb445) := ⟨h10_⟩
                              have NB422_445 : Aside0 (gb422 ≠ gb445) := ⟨h11_⟩
                              have NB445_422 : Aside0 (gb445 ≠ gb422) := ⟨h12_⟩
                              have NB425_445 : Aside0 (gb425 ≠ gb445) := ⟨h13_⟩
                              have NB445_425 : Aside0 (gb445 ≠ gb425) := ⟨h14_⟩
                              replace HO_426002 : Aside0 (Kd.V (Kd.int .i64) 3 w39 w.heap.size (fun k_ => some k_ ≠ (u7 : Value).ownBlock ∧ some k_ ≠ (u8 : Value).ownBlock ∧ k_ ≠ gb422 ∧ k_ ≠ gb425 ∧ k_ ≠ gb445) (.slice Ao34 x426002_2.length co34) x426002_2) := ⟨h2_⟩
                              replace HO_426003 : Aside0 (Kd.V k57 57 w39 w.heap.size (fun k_ => some k_ ≠ (u7 : Value).ownBlock ∧ some k_ ≠ (u8 : Value).ownBlock ∧ k_ ≠ gb422 ∧ k_ ≠ gb425 ∧ k_ ≠ gb445) (.slice Ao35 x426003_2.length co35) x426003_2) := ⟨h3_⟩
                              replace HO_7 : Aside0 (Kd.R (Kd.int .i64) 3 w39 w.heap.size (fun k_ => some k_ ≠ (u8 : Value).ownBlock) u7 x7_2) := ⟨h4_⟩
                              replace HO_8 : Aside0 (Kd.R (Kd.int .i64) 3 w39 w.heap.size (fun k_ => some k_ ≠ (u7 : Value).ownBlock) u8 x8_2) := ⟨h5_⟩
                              replace BK422 : Aside0 (w39.heap[gb422]? = some (.cells #[.int .i64 a0_0, .int .i64 a0_1, .int .i64 a0_2, .int .i64 a0_3] 23 (0, 0))) := ⟨h6_⟩
                              replace BK425 : Aside0 (w39.heap[gb425]? = some (.cells #[.int .i64 x426000_2, .int .i64 x426001_2, .slice Ao34 x426002_2.length co34, .slice Ao35 x426003_2.length co35] 27 (0, 0))) := ⟨h7_⟩
                              replace HB : Aside0 (Below w.heap.size w w39) := ⟨h15_⟩
                              clear h0_ h1_ h2_ h3_ h4_ h5_ h6_ h7_ h8_ h9_ h10_ h11_ h12_ h13_ h14_ h15_
                              have hHeld : w39.cell? ⟨gb422, 0, none⟩ = some (.int .i64 a0_0) ∧ w39.cell? ⟨gb422, 1, none⟩ = some (.int .i64 a0_1) ∧ w39.cell? ⟨gb422, 2, none⟩ = some (.int .i64 a0_2) ∧ w39.cell? ⟨gb422, 3, none⟩ = some (.int .i64 a0_3) ∧ w39.cell? ⟨gb425, 0, none⟩ = some (.int .i64 x426000_2) ∧ w39.cell? ⟨gb425, 1, none⟩ = some (.int .i64 x426001_2) ∧ w39.cell? ⟨gb425, 2, none⟩ = some (.slice Ao34 x426002_2.length co34) ∧ w39.cell? ⟨gb425, 3, none⟩ = some (.slice Ao35 x426003_2.length co35) ∧ w39.cell? (ad431.add ((x9_2).toNat * 2)) = some (.int .i64 ((rd_T45 l1 x9_2).f0)) ∧ w39.cell? ⟨(ad431.add ((x9_2).toNat * 2)).block, (ad431.add ((x9_2).toNat * 2)).off + 1, none⟩ = some (.int .i64 ((rd_T45 l1 x9_2).f1)) := hS_
                              refine norm_ (a' := ?_) ?_ ?_
                              rotate_left
                              · simp only [putAll, Act.put, List.setIfInBounds_toArray, List.set_cons_zero, List.set_cons_succ]
                                rfl
                              refine one_ (i := 13) (N := some 11) #[true, true, true, true, true, true, true, true, true, true, true, true, true, true, false, false] rfl rfl (one_of HT_.out (by kernel_rfl)) (by decide) (fun K hK => ?_)
                              refine box_step ?hg (N := 11) ?hd (cs := #[.bool false, .int .i64 0, .int .i64 0, .int .i64 0]) (t := 32) ?hr ?_; (case hd => rfl); (case hg => rfl); (case hr => first | (go_simp; done) | (go_simp; rfl))
                              intro gb446 hg w40 hbox hb
                              have BK446 := Aside0.mk (hbox)
                              have GW446 := Aside0.mk ((by rw [hg]; exact (below_size (bl HB)) : w.heap.size ≤ gb446))
                              have GE446 := Aside0.mk ((by rw [hg]; exact (below_size (bl HB)) : w.heap.size ≤ gb446))
                              have NB422_446 := nb BK422 hg
                              have NB446_422 := bn BK422 hg
                              have NB425_446 := nb BK425 hg
                              have NB446_425 := bn BK425 hg
                              have NB445_446 := nb BK445 hg
                              have NB446_445 := bn BK445 hg
                              replace HO_7 := Aside0.mk (Kd.R_below (by (with_reducible repeat (first | apply Kd.R_alloc | apply Kd.R_drewN | apply Kd.R_drew)); exact HO_7.out) hb)
                              replace HO_8 := Aside0.mk (Kd.R_below (by (with_reducible repeat (first | apply Kd.R_alloc | apply Kd.R_drewN | apply Kd.R_drew)); exact HO_8.out) hb)
                              replace HO_426002 := ve HO_426002 hg hb
                              replace HO_426003 := ve HO_426003 hg hb
                              replace HO437 := ve HO437 hg hb
                              replace HO440 := ve HO440 hg hb
                              replace BK422 := Aside0.mk (blk_below (bo BK422) hb)
                              replace BK425 := Aside0.mk (blk_below (bo BK425) hb)
                              replace BK445 := Aside0.mk (blk_below (bo BK445) hb)
                              replace HB := Aside0.mk (below_step (bl HB) hb)
                              clear hb hbox hg
                              refine hK.out _ _ ⟨(blk_cell BK422.out 0).trans rfl, (blk_cell BK422.out 1).trans rfl, (blk_cell BK422.out 2).trans rfl, (blk_cell BK422.out 3).trans rfl, (blk_cell BK425.out 0).trans rfl, (blk_cell BK425.out 1).trans rfl, (blk_cell BK425.out 2).trans rfl, (blk_cell BK425.out 3).trans rfl, ((HB.out.cell (World.block_lt_of_cell? w _ hw432_0)).trans hw432_0), ((HB.out.cell (World.block_lt_of_cell? w _ hw432_1)).trans hw432_1)⟩ (fun hHeld => ?_)
                              clear hK K
                              refine norm_ (a' := ?_) ?_ ?_
                              rotate_left
                              · show Act.put _ (some 11) _ = _
                                simp only [Act.put, List.setIfInBounds_toArray, List.set_cons_zero, List.set_cons_succ, i64_w, i32_w]
                                rfl
                              exact norm_ (by first | (simp only [putAll, Act.put, List.setIfInBounds_toArray, List.set_cons_zero, List.set_cons_succ]; done) | (simp only [putAll, Act.put, List.setIfInBounds_toArray, List.set_cons_zero, List.set_cons_succ]; rfl)) (hJ8_12_13 (v436, v439, gb445, gb446) _ ⟨hHeld, (by (with_reducible repeat (first | apply Kd.V_alloc | apply Kd.V_drewN | apply Kd.V_drew)); exact Kd.V_mono HO437.out (fun _ hk => ⟨hk.1.1, ⟨hk.1.2.1, ⟨hk.1.2.2.1, ⟨hk.1.2.2.2.1, ⟨hk.1.2.2.2.2, hk.2⟩⟩⟩⟩⟩)), (by (with_reducible repeat (first | apply Kd.V_alloc | apply Kd.V_drewN | apply Kd.V_drew)); exact Kd.V_mono HO440.out (fun _ hk => ⟨hk.1.1, ⟨hk.1.2.1, ⟨hk.1.2.2.1, ⟨hk.1.2.2.2.1, ⟨hk.1.2.2.2.2, hk.2⟩⟩⟩⟩⟩)), (by (with_reducible repeat (first | apply Kd.V_alloc | apply Kd.V_drewN | apply Kd.V_drew)); exact Kd.V_mono HO_426002.out (fun _ hk => ⟨hk.1.1, ⟨hk.1.2.1, ⟨hk.1.2.2.1, ⟨hk.1.2.2.2.1, ⟨hk.1.2.2.2.2, hk.2⟩⟩⟩⟩⟩)), (by (with_reducible repeat (first | apply Kd.V_alloc | apply Kd.V_drewN | apply Kd.V_drew)); exact Kd.V_mono HO_426003.out (fun _ hk => ⟨hk.1.1, ⟨hk.1.2.1, ⟨hk.1.2.2.1, ⟨hk.1.2.2.2.1, ⟨hk.1.2.2.2.2, hk.2⟩⟩⟩⟩⟩)), (by (with_reducible repeat (first | apply Kd.R_alloc | apply Kd.R_drewN | apply Kd.R_drew)); exact HO_7.out), (by (with_reducible repeat (first | apply Kd.R_alloc | apply Kd.R_drewN | apply Kd.R_drew)); exact HO_8.out), (bo BK422), (bo BK425), (bo BK445), (bo BK446), GW445.out, GE445.out, NB422_445.out, NB445_422.out, NB425_445.out, NB445_425.out, NB446_445.out, NB445_446.out, GW446.out, GE446.out, NB422_446.out, NB446_422.out, NB425_446.out, NB446_425.out, (bl HB)⟩)
                          rintro ⟨v436, v439, gb445, gb446⟩ w40 ⟨hS_, h0_, h1_, h2_, h3_, h4_, h5_, h6_, h7_, h8_, h9_, h10_, h11_, h12_, h13_, h14_, h15_, h16_, h17_, h18_, h19_, h20_, h21_, h22_, h23_, h24_⟩
                          have HO437 : Aside0 (Kd.V (Kd.int .i64) 3 w40 w.heap.size (fun k_ => some k_ ≠ (u7 : Value).ownBlock ∧ some k_ ≠ (u8 : Value).ownBlock ∧ k_ ≠ gb422 ∧ k_ ≠ gb425 ∧ k_ ≠ gb445 ∧ k_ ≠ gb446) v436 t435) := ⟨h0_⟩
                          have HO440 : Aside0 (Kd.V k57 57 w40 w.heap.size (fun k_ => some k_ ≠ (u7 : Value).ownBlock ∧ some k_ ≠ (u8 : Value).ownBlock ∧ k_ ≠ gb422 ∧ k_ ≠ gb425 ∧ k_ ≠ gb445 ∧ k_ ≠ gb446) v439 t438) := ⟨h1_⟩
                          have BK445 : Aside0 (w40.heap[gb445]? = some (.cells #[.int .i64 0, .int .i64 0, .slice none 0 0, .slice none 0 0] 27 (0, 0))) := ⟨h8_⟩
                          have BK446 : Aside0 (w40.heap[gb446]? = some (.cells #[.bool false, .int .i64 0, .int .i64 0, .int .i64 0] 32 (0, 0))) := ⟨h9_⟩
                          have GW445 : Aside0 (w.heap.size ≤ gb445) := ⟨h10_⟩
                          have GE445 : Aside0 (w.heap.size ≤ gb445) := ⟨h11_⟩
                          have NB422_445 : Aside0 (gb422 ≠ gb445) := ⟨h12_⟩
                          have NB445_422 : Aside0 (gb445 ≠ gb422) := ⟨h13_⟩
                          have NB425_445 : Aside0 (gb425 ≠ gb445) := ⟨h14_⟩
                          have NB445_425 : Aside0 (gb445 ≠ gb425) := ⟨h15_⟩
                          have NB446_445 : Aside0 (gb446 ≠ gb445) := ⟨h16_⟩
                          have NB445_446 : Aside0 (gb445 ≠ gb446) := ⟨h17_⟩
                          have GW446 : Aside0 (w.heap.size ≤ gb446) := ⟨h18_⟩
                          have GE446 : Aside0 (w.heap.size ≤ gb446) := ⟨h19_⟩
                          have NB422_446 : Aside0 (gb422 ≠ gb446) := ⟨h20_⟩
                          have NB446_422 : Aside0 (gb446 ≠ gb422) := ⟨h21_⟩
                          have NB425_446 : Aside0 (gb425 ≠ gb446) := ⟨h22_⟩
                          have NB446_425 : Aside0 (gb446 ≠ gb425) := ⟨h23_⟩
                          replace HO_426002 : Aside0 (Kd.V (Kd.int .i64) 3 w40 w.heap.size (fun k_ => some k_ ≠ (u7 : Value).ownBlock ∧ some k_ ≠ (u8 : Value).ownBlock ∧ k_ ≠ gb422 ∧ k_ ≠ gb425 ∧ k_ ≠ gb445 ∧ k_ ≠ gb446) (.slice Ao34 x426002_2.length co34) x426002_2) := ⟨h2_⟩
                          replace HO_426003 : Aside0 (Kd.V k57 57 w40 w.heap.size (fun k_ => some k_ ≠ (u7 : Value).ownBlock ∧ some k_ ≠ (u8 : Value).ownBlock ∧ k_ ≠ gb422 ∧ k_ ≠ gb425 ∧ k_ ≠ gb445 ∧ k_ ≠ gb446) (.slice Ao35 x426003_2.length co35) x426003_2) := ⟨h3_⟩
                          replace HO_7 : Aside0 (Kd.R (Kd.int .i64) 3 w40 w.heap.size (fun k_ => some k_ ≠ (u8 : Value).ownBlock) u7 x7_2) := ⟨h4_⟩
                          replace HO_8 : Aside0 (Kd.R (Kd.int .i64) 3 w40 w.heap.size (fun k_ => some k_ ≠ (u7 : Value).ownBlock) u8 x8_2) := ⟨h5_⟩
                          replace BK422 : Aside0 (w40.heap[gb422]? = some (.cells #[.int .i64 a0_0, .int .i64 a0_1, .int .i64 a0_2, .int .i64 a0_3] 23 (0, 0))) := ⟨h6_⟩
                          replace BK425 : Aside0 (w40.heap[gb425]? = some (.cells #[.int .i64 x426000_2, .int .i64 x426001_2, .slice Ao34 x426002_2.length co34, .slice Ao35 x426003_2.length co35] 27 (0, 0))) := ⟨h7_⟩
                          replace HB : Aside0 (Below w.heap.size w w40) := ⟨h24_⟩
                          clear h0_ h1_ h2_ h3_ h4_ h5_ h6_ h7_ h8_ h9_ h10_ h11_ h12_ h13_ h14_ h15_ h16_ h17_ h18_ h19_ h20_ h21_ h22_ h23_ h24_
                          have hHeld : w40.cell? ⟨gb422, 0, none⟩ = some (.int .i64 a0_0) ∧ w40.cell? ⟨gb422, 1, none⟩ = some (.int .i64 a0_1) ∧ w40.cell? ⟨gb422, 2, none⟩ = some (.int .i64 a0_2) ∧ w40.cell? ⟨gb422, 3, none⟩ = some (.int .i64 a0_3) ∧ w40.cell? ⟨gb425, 0, none⟩ = some (.int .i64 x426000_2) ∧ w40.cell? ⟨gb425, 1, none⟩ = some (.int .i64 x426001_2) ∧ w40.cell? ⟨gb425, 2, none⟩ = some (.slice Ao34 x426002_2.length co34) ∧ w40.cell? ⟨gb425, 3, none⟩ = some (.slice Ao35 x426003_2.length co35) ∧ w40.cell? (ad431.add ((x9_2).toNat * 2)) = some (.int .i64 ((rd_T45 l1 x9_2).f0)) ∧ w40.cell? ⟨(ad431.add ((x9_2).toNat * 2)).block, (ad431.add ((x9_2).toNat * 2)).off + 1, none⟩ = some (.int .i64 ((rd_T45 l1 x9_2).f1)) := hS_
                          obtain ⟨Ao43, co43, eo43⟩ := Kd.V_slice HO437.out
                          (first | subst eo43 | (injection eo43 with f1_ f2_ f3_; have f4_ := f1_.symm; have f5_ := f3_.symm; clear f1_ f2_ f3_; subst f4_; subst f5_))
                          obtain ⟨Ao45, co45, eo45⟩ := Kd.V_slice HO440.out
                          (first | subst eo45 | (injection eo45 with f1_ f2_ f3_; have f4_ := f1_.symm; have f5_ := f3_.symm; clear f1_ f2_ f3_; subst f4_; subst f5_))
                          refine norm_ (a' := ?_) ?_ ?_
                          rotate_left
                          · simp only [putAll, Act.put, List.setIfInBounds_toArray, List.set_cons_zero, List.set_cons_succ]
                            rfl
                          refine one_ (i := 14) (N := none) #[true, true, true, true, true, true, true, true, true, true, true, true, true, true, true, false] rfl rfl (one_of HT_.out (by kernel_rfl)) (by decide) (fun K hK => ?_)
                          have hs41 : w40.cell? ⟨gb445, 0, none⟩ = some (.int .i64 0) := (blk_cell BK445.out 0).trans rfl
                          have hfs41 := blk_frozen BK445.out 0
                          have hns41_0 := NB422_445.out
                          have hns41_1 := NB425_445.out
                          have hns41_3 := NB446_445.out
                          have hms41_0 := NB445_422.out
                          have hms41_1 := NB445_425.out
                          have hms41_3 := NB445_446.out
                          have hs42 : w40.cell? ⟨gb445, 1, none⟩ = some (.int .i64 0) := (blk_cell BK445.out 1).trans rfl
                          have hfs42 := blk_frozen BK445.out 1
                          have hns42_0 := NB422_445.out
                          have hns42_1 := NB425_445.out
                          have hns42_3 := NB446_445.out
                          have hms42_0 := NB445_422.out
                          have hms42_1 := NB445_425.out
                          have hms42_3 := NB445_446.out
                          have hs44 : w40.cell? ⟨gb445, 2, none⟩ = some (.slice none 0 0) := (blk_cell BK445.out 2).trans rfl
                          have hfs44 := blk_frozen BK445.out 2
                          have hns44_0 := NB422_445.out
                          have hns44_1 := NB425_445.out
                          have hns44_3 := NB446_445.out
                          have hms44_0 := NB445_422.out
                          have hms44_1 := NB445_425.out
                          have hms44_3 := NB445_446.out
                          have hs46 : w40.cell? ⟨gb445, 3, none⟩ = some (.slice none 0 0) := (blk_cell BK445.out 3).trans rfl
                          have hfs46 := blk_frozen BK445.out 3
                          have hns46_0 := NB422_445.out
                          have hns46_1 := NB425_445.out
                          have hns46_3 := NB446_445.out
                          have hms46_0 := NB445_422.out
                          have hms46_1 := NB445_425.out
                          have hms46_3 := NB445_446.out
                          refine skip_ (w1 := ?_) (by rfl) rfl ?_ ?_
                          rotate_left
                          · go_simp
                            rfl
                          refine hK.out _ _ ⟨((cell_far (p := ⟨gb445, _, none⟩) NB422_445.out _).trans (((cell_far (p := ⟨gb445, _, none⟩) NB422_445.out _).trans (((cell_far (p := ⟨gb445, _, none⟩) NB422_445.out _).trans (((cell_far (p := ⟨gb445, _, none⟩) NB422_445.out _).trans (hHeld.1)))))))), ((cell_far (p := ⟨gb445, _, none⟩) NB422_445.out _).trans (((cell_far (p := ⟨gb445, _, none⟩) NB422_445.out _).trans (((cell_far (p := ⟨gb445, _, none⟩) NB422_445.out _).trans (((cell_far (p := ⟨gb445, _, none⟩) NB422_445.out _).trans (hHeld.2.1)))))))), ((cell_far (p := ⟨gb445, _, none⟩) NB422_445.out _).trans (((cell_far (p := ⟨gb445, _, none⟩) NB422_445.out _).trans (((cell_far (p := ⟨gb445, _, none⟩) NB422_445.out _).trans (((cell_far (p := ⟨gb445, _, none⟩) NB422_445.out _).trans (hHeld.2.2.1)))))))), ((cell_far (p := ⟨gb445, _, none⟩) NB422_445.out _).trans (((cell_far (p := ⟨gb445, _, none⟩) NB422_445.out _).trans (((cell_far (p := ⟨gb445, _, none⟩) NB422_445.out _).trans (((cell_far (p := ⟨gb445, _, none⟩) NB422_445.out _).trans (hHeld.2.2.2.1)))))))), ((cell_far (p := ⟨gb445, _, none⟩) NB425_445.out _).trans (((cell_far (p := ⟨gb445, _, none⟩) NB425_445.out _).trans (((cell_far (p := ⟨gb445, _, none⟩) NB425_445.out _).trans (((cell_far (p := ⟨gb445, _, none⟩) NB425_445.out _).trans (hHeld.2.2.2.2.1)))))))), ((cell_far (p := ⟨gb445, _, none⟩) NB425_445.out _).trans (((cell_far (p := ⟨gb445, _, none⟩) NB425_445.out _).trans (((cell_far (p := ⟨gb445, _, none⟩) NB425_445.out _).trans (((cell_far (p := ⟨gb445, _, none⟩) NB425_445.out _).trans (hHeld.2.2.2.2.2.1)))))))), ((cell_far (p := ⟨gb445, _, none⟩) NB425_445.out _).trans (((cell_far (p := ⟨gb445, _, none⟩) NB425_445.out _).trans (((cell_far (p := ⟨gb445, _, none⟩) NB425_445.out _).trans (((cell_far (p := ⟨gb445, _, none⟩) NB425_445.out _).trans (hHeld.2.2.2.2.2.2.1)))))))), ((cell_far (p := ⟨gb445, _, none⟩) NB425_445.out _).trans (((cell_far (p := ⟨gb445, _, none⟩) NB425_445.out _).trans (((cell_far (p := ⟨gb445, _, none⟩) NB425_445.out _).trans (((cell_far (p := ⟨gb445, _, none⟩) NB425_445.out _).trans (hHeld.2.2.2.2.2.2.2.1)))))))), ((cell_far (p := ⟨gb445, _, none⟩) (by first | exact Nat.ne_of_lt (Nat.lt_of_lt_of_le (by have := World.block_lt_of_cell? _ _ hw432_0; first | rwa [add_block] at this | exact this) GW445.out) | (rw [add_block]; exact Nat.ne_of_lt (Nat.lt_of_lt_of_le (by have := World.block_lt_of_cell? _ _ hw432_0; first | rwa [add_block] at this | exact this) GW445.out)) | (show (Addr.add _ _).block ≠ _; rw [add_block]; exact Nat.ne_of_lt (Nat.lt_of_lt_of_le (by have := World.block_lt_of_cell? _ _ hw432_0; first | rwa [add_block] at this | exact this) GW445.out)) | (dsimp only; exact Nat.ne_of_lt (Nat.lt_of_lt_of_le (by have := World.block_lt_of_cell? _ _ hw432_0; first | rwa [add_block] at this | exact this) GW445.out))) _).trans (((cell_far (p := ⟨gb445, _, none⟩) (by first | exact Nat.ne_of_lt (Nat.lt_of_lt_of_le (by have := World.block_lt_of_cell? _ _ hw432_0; first | rwa [add_block] at this | exact this) GW445.out) | (rw [add_block]; exact Nat.ne_of_lt (Nat.lt_of_lt_of_le (by have := World.block_lt_of_cell? _ _ hw432_0; first | rwa [add_block] at this | exact this) GW445.out)) | (show (Addr.add _ _).block ≠ _; rw [add_block]; exact Nat.ne_of_lt (Nat.lt_of_lt_of_le (by have := World.block_lt_of_cell? _ _ hw432_0; first | rwa [add_block] at this | exact this) GW445.out)) | (dsimp only; exact Nat.ne_of_lt (Nat.lt_of_lt_of_le (by have := World.block_lt_of_cell? _ _ hw432_0; first | rwa [add_block] at this | exact this) GW445.out))) _).trans (((cell_far (p := ⟨gb445, _, none⟩) (by first | exact Nat.ne_of_lt (Nat.lt_of_lt_of_le (by have := World.block_lt_of_cell? _ _ hw432_0; first | rwa [add_block] at this | exact this) GW445.out) | (rw [add_block]; exact Nat.ne_of_lt (Nat.lt_of_lt_of_le (by have := World.block_lt_of_cell? _ _ hw432_0; first | rwa [add_block] at this | exact this) GW445.out)) | (show (Addr.add _ _).block ≠ _; rw [add_block]; exact Nat.ne_of_lt (Nat.lt_of_lt_of_le (by have := World.block_lt_of_cell? _ _ hw432_0; first | rwa [add_block] at this | exact this) GW445.out)) | (dsimp only; exact Nat.ne_of_lt (Nat.lt_of_lt_of_le (by have := World.block_lt_of_cell? _ _ hw432_0; first | rwa [add_block] at this | exact this) GW445.out))) _).trans (((cell_far (p := ⟨gb445, _, none⟩) (by first | exact Nat.ne_of_lt (Nat.lt_of_lt_of_le (by have := World.block_lt_of_cell? _ _ hw432_0; first | rwa [add_block] at this | exact this) GW445.out) | (rw [add_block]; exact Nat.ne_of_lt (Nat.lt_of_lt_of_le (by have := World.block_lt_of_cell? _ _ hw432_0; first | rwa [add_block] at this | exact this) GW445.out)) | (show (Addr.add _ _).block ≠ _; rw [add_block]; exact Nat.ne_of_lt (Nat.lt_of_lt_of_le (by have := World.block_lt_of_cell? _ _ hw432_0; first | rwa [add_block] at this | exact this) GW445.out)) | (dsimp only; exact Nat.ne_of_lt (Nat.lt_of_lt_of_le (by have := World.block_lt_of_cell? _ _ hw432_0; first | rwa [add_block] at this | exact this) GW445.out))) _).trans (hHeld.2.2.2.2.2.2.2.2.1)))))))), ((cell_far (p := ⟨gb445, _, none⟩) (by first | exact Nat.ne_of_lt (Nat.lt_of_lt_of_le (by have := World.block_lt_of_cell? _ _ hw432_1; first | rwa [add_block] at this | exact this) GW445.out) | (rw [add_block]; exact Nat.ne_of_lt (Nat.lt_of_lt_of_le (by have := World.block_lt_of_cell? _ _ hw432_1; first | rwa [add_block] at this | exact this) GW445.out)) | (show (Addr.add _ _).block ≠ _; rw [add_block]; exact Nat.ne_of_lt (Nat.lt_of_lt_of_le (by have := World.block_lt_of_cell? _ _ hw432_1; first | rwa [add_block] at this | exact this) GW445.out)) | (dsimp only; exact Nat.ne_of_lt (Nat.lt_of_lt_of_le (by have := World.block_lt_of_cell? _ _ hw432_1; first | rwa [add_block] at this | exact this) GW445.out))) _).trans (((cell_far (p := ⟨gb445, _, none⟩) (by first | exact Nat.ne_of_lt (Nat.lt_of_lt_of_le (by have := World.block_lt_of_cell? _ _ hw432_1; first | rwa [add_block] at this | exact this) GW445.out) | (rw [add_block]; exact Nat.ne_of_lt (Nat.lt_of_lt_of_le (by have := World.block_lt_of_cell? _ _ hw432_1; first | rwa [add_block] at this | exact this) GW445.out)) | (show (Addr.add _ _).block ≠ _; rw [add_block]; exact Nat.ne_of_lt (Nat.lt_of_lt_of_le (by have := World.block_lt_of_cell? _ _ hw432_1; first | rwa [add_block] at this | exact this) GW445.out)) | (dsimp only; exact Nat.ne_of_lt (Nat.lt_of_lt_of_le (by have := World.block_lt_of_cell? _ _ hw432_1; first | rwa [add_block] at this | exact this) GW445.out))) _).trans (((cell_far (p := ⟨gb445, _, none⟩) (by first | exact Nat.ne_of_lt (Nat.lt_of_lt_of_le (by have := World.block_lt_of_cell? _ _ hw432_1; first | rwa [add_block] at this | exact this) GW445.out) | (rw [add_block]; exact Nat.ne_of_lt (Nat.lt_of_lt_of_le (by have := World.block_lt_of_cell? _ _ hw432_1; first | rwa [add_block] at this | exact this) GW445.out)) | (show (Addr.add _ _).block ≠ _; rw [add_block]; exact Nat.ne_of_lt (Nat.lt_of_lt_of_le (by have := World.block_lt_of_cell? _ _ hw432_1; first | rwa [add_block] at this | exact this) GW445.out)) | (dsimp only; exact Nat.ne_of_lt (Nat.lt_of_lt_of_le (by have := World.block_lt_of_cell? _ _ hw432_1; first | rwa [add_block] at this | exact this) GW445.out))) _).trans (((cell_far (p := ⟨gb445, _, none⟩) (by first | exact Nat.ne_of_lt (Nat.lt_of_lt_of_le (by have := World.block_lt_of_cell? _ _ hw432_1; first | rwa [add_block] at this | exact this) GW445.out) | (rw [add_block]; exact Nat.ne_of_lt (Nat.lt_of_lt_of_le (by have := World.block_lt_of_cell? _ _ hw432_1; first | rwa [add_block] at this | exact this) GW445.out)) | (show (Addr.add _ _).block ≠ _; rw [add_block]; exact Nat.ne_of_lt (Nat.lt_of_lt_of_le (by have := World.block_lt_of_cell? _ _ hw432_1; first | rwa [add_block] at this | exact this) GW445.out)) | (dsimp only; exact Nat.ne_of_lt (Nat.lt_of_lt_of_le (by have := World.block_lt_of_cell? _ _ hw432_1; first | rwa [add_block] at this | exact this) GW445.out))) _).trans (hHeld.2.2.2.2.2.2.2.2.2))))))))⟩ (fun hHeld => ?_)
                          clear hK K
                          refine one_ (i := 15) (N := none) #[true, true, true, true, true, true, true, true, true, true, true, true, true, true, true, true] rfl rfl (one_of HT_.out (by kernel_rfl)) (by decide) (fun K hK => ?_)
                          have hs47 : w40.cell? ⟨gb446, 0, none⟩ = some (.bool false) := (blk_cell BK446.out 0).trans rfl
                          have hfs47 := blk_frozen BK446.out 0
                          have hns47_0 := NB422_446.out
                          have hns47_1 := NB425_446.out
                          have hns47_2 := NB445_446.out
                          have hms47_0 := NB446_422.out
                          have hms47_1 := NB446_425.out
                          have hms47_2 := NB446_445.out
                          have hs48 : w40.cell? ⟨gb446, 1, none⟩ = some (.int .i64 0) := (blk_cell BK446.out 1).trans rfl
                          have hfs48 := blk_frozen BK446.out 1
                          have hns48_0 := NB422_446.out
                          have hns48_1 := NB425_446.out
                          have hns48_2 := NB445_446.out
                          have hms48_0 := NB446_422.out
                          have hms48_1 := NB446_425.out
                          have hms48_2 := NB446_445.out
                          have hs49 : w40.cell? ⟨gb446, 2, none⟩ = some (.int .i64 0) := (blk_cell BK446.out 2).trans rfl
                          have hfs49 := blk_frozen BK446.out 2
                          have hns49_0 := NB422_446.out
                          have hns49_1 := NB425_446.out
                          have hns49_2 := NB445_446.out
                          have hms49_0 := NB446_422.out
                          have hms49_1 := NB446_425.out
                          have hms49_2 := NB446_445.out
                          have hs50 : w40.cell? ⟨gb446, 3, none⟩ = some (.int .i64 0) := (blk_cell BK446.out 3).trans rfl
                          have hfs50 := blk_frozen BK446.out 3
                          have hns50_0 := NB422_446.out
                          have hns50_1 := NB425_446.out
                          have hns50_2 := NB445_446.out
                          have hms50_0 := NB446_422.out
                          have hms50_1 := NB446_425.out
                          have hms50_2 := NB446_445.out
                          refine skip_ (w1 := ?_) (by rfl) rfl ?_ ?_
                          rotate_left
                          · go_simp
                            rfl
                          refine hK.out _ _ ⟨((cell_far (p := ⟨gb446, _, none⟩) NB422_446.out _).trans (((cell_far (p := ⟨gb446, _, none⟩) NB422_446.out _).trans (((cell_far (p := ⟨gb446, _, none⟩) NB422_446.out _).trans (((cell_far (p := ⟨gb446, _, none⟩) NB422_446.out _).trans (hHeld.1)))))))), ((cell_far (p := ⟨gb446, _, none⟩) NB422_446.out _).trans (((cell_far (p := ⟨gb446, _, none⟩) NB422_446.out _).trans (((cell_far (p := ⟨gb446, _, none⟩) NB422_446.out _).trans (((cell_far (p := ⟨gb446, _, none⟩) NB422_446.out _).trans (hHeld.2.1)))))))), ((cell_far (p := ⟨gb446, _, none⟩) NB422_446.out _).trans (((cell_far (p := ⟨gb446, _, none⟩) NB422_446.out _).trans (((cell_far (p := ⟨gb446, _, none⟩) NB422_446.out _).trans (((cell_far (p := ⟨gb446, _, none⟩) NB422_446.out _).trans (hHeld.2.2.1)))))))), ((cell_far (p := ⟨gb446, _, none⟩) NB422_446.out _).trans (((cell_far (p := ⟨gb446, _, none⟩) NB422_446.out _).trans (((cell_far (p := ⟨gb446, _, none⟩) NB422_446.out _).trans (((cell_far (p := ⟨gb446, _, none⟩) NB422_446.out _).trans (hHeld.2.2.2.1)))))))), ((cell_far (p := ⟨gb446, _, none⟩) NB425_446.out _).trans (((cell_far (p := ⟨gb446, _, none⟩) NB425_446.out _).trans (((cell_far (p := ⟨gb446, _, none⟩) NB425_446.out _).trans (((cell_far (p := ⟨gb446, _, none⟩) NB425_446.out _).trans (hHeld.2.2.2.2.1)))))))), ((cell_far (p := ⟨gb446, _, none⟩) NB425_446.out _).trans (((cell_far (p := ⟨gb446, _, none⟩) NB425_446.out _).trans (((cell_far (p := ⟨gb446, _, none⟩) NB425_446.out _).trans (((cell_far (p := ⟨gb446, _, none⟩) NB425_446.out _).trans (hHeld.2.2.2.2.2.1)))))))), ((cell_far (p := ⟨gb446, _, none⟩) NB425_446.out _).trans (((cell_far (p := ⟨gb446, _, none⟩) NB425_446.out _).trans (((cell_far (p := ⟨gb446, _, none⟩) NB425_446.out _).trans (((cell_far (p := ⟨gb446, _, none⟩) NB425_446.out _).trans (hHeld.2.2.2.2.2.2.1)))))))), ((cell_far (p := ⟨gb446, _, none⟩) NB425_446.out _).trans (((cell_far (p := ⟨gb446, _, none⟩) NB425_446.out _).trans (((cell_far (p := ⟨gb446, _, none⟩) NB425_446.out _).trans (((cell_far (p := ⟨gb446, _, none⟩) NB425_446.out _).trans (hHeld.2.2.2.2.2.2.2.1)))))))), ((cell_far (p := ⟨gb446, _, none⟩) (by first | exact Nat.ne_of_lt (Nat.lt_of_lt_of_le (by have := World.block_lt_of_cell? _ _ hw432_0; first | rwa [add_block] at this | exact this) GW446.out) | (rw [add_block]; exact Nat.ne_of_lt (Nat.lt_of_lt_of_le (by have := World.block_lt_of_cell? _ _ hw432_0; first | rwa [add_block] at this | exact this) GW446.out)) | (show (Addr.add _ _).block ≠ _; rw [add_block]; exact Nat.ne_of_lt (Nat.lt_of_lt_of_le (by have := World.block_lt_of_cell? _ _ hw432_0; first | rwa [add_block] at this | exact this) GW446.out)) | (dsimp only; exact Nat.ne_of_lt (Nat.lt_of_lt_of_le (by have := World.block_lt_of_cell? _ _ hw432_0; first | rwa [add_block] at this | exact this) GW446.out))) _).trans (((cell_far (p := ⟨gb446, _, none⟩) (by first | exact Nat.ne_of_lt (Nat.lt_of_lt_of_le (by have := World.block_lt_of_cell? _ _ hw432_0; first | rwa [add_block] at this | exact this) GW446.out) | (rw [add_block]; exact Nat.ne_of_lt (Nat.lt_of_lt_of_le (by have := World.block_lt_of_cell? _ _ hw432_0; first | rwa [add_block] at this | exact this) GW446.out)) | (show (Addr.add _ _).block ≠ _; rw [add_block]; exact Nat.ne_of_lt (Nat.lt_of_lt_of_le (by have := World.block_lt_of_cell? _ _ hw432_0; first | rwa [add_block] at this | exact this) GW446.out)) | (dsimp only; exact Nat.ne_of_lt (Nat.lt_of_lt_of_le (by have := World.block_lt_of_cell? _ _ hw432_0; first | rwa [add_block] at this | exact this) GW446.out))) _).trans (((cell_far (p := ⟨gb446, _, none⟩) (by first | exact Nat.ne_of_lt (Nat.lt_of_lt_of_le (by have := World.block_lt_of_cell? _ _ hw432_0; first | rwa [add_block] at this | exact this) GW446.out) | (rw [add_block]; exact Nat.ne_of_lt (Nat.lt_of_lt_of_le (by have := World.block_lt_of_cell? _ _ hw432_0; first | rwa [add_block] at this | exact this) GW446.out)) | (show (Addr.add _ _).block ≠ _; rw [add_block]; exact Nat.ne_of_lt (Nat.lt_of_lt_of_le (by have := World.block_lt_of_cell? _ _ hw432_0; first | rwa [add_block] at this | exact this) GW446.out)) | (dsimp only; exact Nat.ne_of_lt (Nat.lt_of_lt_of_le (by have := World.block_lt_of_cell? _ _ hw432_0; first | rwa [add_block] at this | exact this) GW446.out))) _).trans (((cell_far (p := ⟨gb446, _, none⟩) (by first | exact Nat.ne_of_lt (Nat.lt_of_lt_of_le (by have := World.block_lt_of_cell? _ _ hw432_0; first | rwa [add_block] at this | exact this) GW446.out) | (rw [add_block]; exact Nat.ne_of_lt (Nat.lt_of_lt_of_le (by have := World.block_lt_of_cell? _ _ hw432_0; first | rwa [add_block] at this | exact this) GW446.out)) | (show (Addr.add _ _).block ≠ _; rw [add_block]; exact Nat.ne_of_lt (Nat.lt_of_lt_of_le (by have := World.block_lt_of_cell? _ _ hw432_0; first | rwa [add_block] at this | exact this) GW446.out)) | (dsimp only; exact Nat.ne_of_lt (Nat.lt_of_lt_of_le (by have := World.block_lt_of_cell? _ _ hw432_0; first | rwa [add_block] at this | exact this) GW446.out))) _).trans (hHeld.2.2.2.2.2.2.2.2.1)))))))), ((cell_far (p := ⟨gb446, _, none⟩) (by first | exact Nat.ne_of_lt (Nat.lt_of_lt_of_le (by have := World.block_lt_of_cell? _ _ hw432_1; first | rwa [add_block] at this | exact this) GW446.out) | (rw [add_block]; exact Nat.ne_of_lt (Nat.lt_of_lt_of_le (by have := World.block_lt_of_cell? _ _ hw432_1; first | rwa [add_block] at this | exact this) GW446.out)) | (show (Addr.add _ _).block ≠ _; rw [add_block]; exact Nat.ne_of_lt (Nat.lt_of_lt_of_le (by have := World.block_lt_of_cell? _ _ hw432_1; first | rwa [add_block] at this | exact this) GW446.out)) | (dsimp only; exact Nat.ne_of_lt (Nat.lt_of_lt_of_le (by have := World.block_lt_of_cell? _ _ hw432_1; first | rwa [add_block] at this | exact this) GW446.out))) _).trans (((cell_far (p := ⟨gb446, _, none⟩) (by first | exact Nat.ne_of_lt (Nat.lt_of_lt_of_le (by have := World.block_lt_of_cell? _ _ hw432_1; first | rwa [add_block] at this | exact this) GW446.out) | (rw [add_block]; exact Nat.ne_of_lt (Nat.lt_of_lt_of_le (by have := World.block_lt_of_cell? _ _ hw432_1; first | rwa [add_block] at this | exact this) GW446.out)) | (show (Addr.add _ _).block ≠ _; rw [add_block]; exact Nat.ne_of_lt (Nat.lt_of_lt_of_le (by have := World.block_lt_of_cell? _ _ hw432_1; first | rwa [add_block] at this | exact this) GW446.out)) | (dsimp only; exact Nat.ne_of_lt (Nat.lt_of_lt_of_le (by have := World.block_lt_of_cell? _ _ hw432_1; first | rwa [add_block] at this | exact this) GW446.out))) _).trans (((cell_far (p := ⟨gb446, _, none⟩) (by first | exact Nat.ne_of_lt (Nat.lt_of_lt_of_le (by have := World.block_lt_of_cell? _ _ hw432_1; first | rwa [add_block] at this | exact this) GW446.out) | (rw [add_block]; exact Nat.ne_of_lt (Nat.lt_of_lt_of_le (by have := World.block_lt_of_cell? _ _ hw432_1; first | rwa [add_block] at this | exact this) GW446.out)) | (show (Addr.add _ _).block ≠ _; rw [add_block]; exact Nat.ne_of_lt (Nat.lt_of_lt_of_le (by have := World.block_lt_of_cell? _ _ hw432_1; first | rwa [add_block] at this | exact this) GW446.out)) | (dsimp only; exact Nat.ne_of_lt (Nat.lt_of_lt_of_le (by have := World.block_lt_of_cell? _ _ hw432_1; first | rwa [add_block] at this | exact this) GW446.out))) _).trans (((cell_far (p := ⟨gb446, _, none⟩) (by first | exact Nat.ne_of_lt (Nat.lt_of_lt_of_le (by have := World.block_lt_of_cell? _ _ hw432_1; first | rwa [add_block] at this | exact this) GW446.out) | (rw [add_block]; exact Nat.ne_of_lt (Nat.lt_of_lt_of_le (by have := World.block_lt_of_cell? _ _ hw432_1; first | rwa [add_block] at this | exact this) GW446.out)) | (show (Addr.add _ _).block ≠ _; rw [add_block]; exact Nat.ne_of_lt (Nat.lt_of_lt_of_le (by have := World.block_lt_of_cell? _ _ hw432_1; first | rwa [add_block] at this | exact this) GW446.out)) | (dsimp only; exact Nat.ne_of_lt (Nat.lt_of_lt_of_le (by have := World.block_lt_of_cell? _ _ hw432_1; first | rwa [add_block] at this | exact this) GW446.out))) _).trans (hHeld.2.2.2.2.2.2.2.2.2))))))))⟩ (fun hHeld => ?_)
                          clear hK K
                          refine done_ (done_of HT_.out (by kernel_rfl)) ?_
                          have hnb51 := NB445_422.out
                          have hnc51 := NB422_445.out
                          have hnb52 := NB445_425.out
                          have hnc52 := NB425_445.out
                          have hnb53 := NB445_446.out
                          have hnc53 := NB446_445.out
                          obtain ⟨hcz54_0, hcz54_1, hcz54_2, hcz54_3⟩ := ce4 BK445
                          obtain ⟨hfz54_0, hfz54_1, hfz54_2, hfz54_3⟩ := fr4 BK445
                          have hnb55 := NB425_422.out
                          have hnc55 := NB422_425.out
                          have hnb56 := NB425_446.out
                          have hnc56 := NB446_425.out
                          obtain ⟨hcz57_0, hcz57_1, hcz57_2, hcz57_3⟩ := ce4 BK425
                          obtain ⟨hfz57_0, hfz57_1, hfz57_2, hfz57_3⟩ := fr4 BK425
                          go_upto_if 84 with (first | ((with_reducible refine gate_store (t := 27) (p := 5) rfl ?_); refine store_event (t := 27) (p := 5) (v := ?vo_w58) (w1 := ((((((((((((w40.setCell ⟨gb445, 0, none⟩ (.int .i64 t433)).setCell ⟨gb445, 1, none⟩ (.int .i64 t434)).setCell ⟨gb445, 2, none⟩ (.slice Ao43 t435.length co43)).setCell ⟨gb445, 3, none⟩ (.slice Ao45 t438.length co45)).setCell ⟨gb446, 0, none⟩ (.bool t441)).setCell ⟨gb446, 1, none⟩ (.int .i64 t442)).setCell ⟨gb446, 2, none⟩ (.int .i64 t443)).setCell ⟨gb446, 3, none⟩ (.int .i64 t444)).setCell ⟨gb425, 0, none⟩ (.int .i64 t433)).setCell ⟨gb425, 1, none⟩ (.int .i64 t434)).setCell ⟨gb425, 2, none⟩ (.slice Ao43 t435.length co43)).setCell ⟨gb425, 3, none⟩ (.slice Ao45 t438.length co45))) ?hg ?ho ?hn ?hr ?_; (case ho => rfl); (case hg => rfl); (case hn => rfl); (case hr => first | (go_simp; done) | (go_simp; rfl)); intro w58 hw; replace HO_7 : Aside0 (Kd.R (Kd.int .i64) 3 w58 w.heap.size (fun k_ => some k_ ≠ (u8 : Value).ownBlock) u7 x7_2) := ⟨(by rw [hw]; exact (by (with_reducible repeat (first | apply Kd.R_alloc | apply Kd.R_drewN | apply Kd.R_drew)); exact Kd.R_mono (Kd.R_far (p := ⟨gb425, 3, none⟩) (Kd.R_far (p := ⟨gb425, 2, none⟩) (Kd.R_far (p := ⟨gb425, 1, none⟩) (Kd.R_far (p := ⟨gb425, 0, none⟩) (Kd.R_far (p := ⟨gb446, 3, none⟩) (Kd.R_far (p := ⟨gb446, 2, none⟩) (Kd.R_far (p := ⟨gb446, 1, none⟩) (Kd.R_far (p := ⟨gb446, 0, none⟩) (Kd.R_far (p := ⟨gb445, 3, none⟩) (Kd.R_far (p := ⟨gb445, 2, none⟩) (Kd.R_far (p := ⟨gb445, 1, none⟩) (Kd.R_far (p := ⟨gb445, 0, none⟩) (Kd.R_types (Kd.R_types (Kd.R_types HO_7.out BK445.out (by decide)) BK446.out (by decide)) BK425.out (by decide)) (fun _ hk => hk.1.1.2) (.int .i64 t433)) (fun _ hk => hk.1.1.2) (.int .i64 t434)) (fun _ hk => hk.1.1.2) (.slice Ao43 t435.length co43)) (fun _ hk => hk.1.1.2) (.slice Ao45 t438.length co45)) (fun _ hk => hk.1.2) (.bool t441)) (fun _ hk => hk.1.2) (.int .i64 t442)) (fun _ hk => hk.1.2) (.int .i64 t443)) (fun _ hk => hk.1.2) (.int .i64 t444)) (fun _ hk => hk.2) (.int .i64 t433)) (fun _ hk => hk.2) (.int .i64 t434)) (fun _ hk => hk.2) (.slice Ao43 t435.length co43)) (fun _ hk => hk.2) (.slice Ao45 t438.length co45)) (fun _ hk => hk.1.1.1)))⟩; replace HO_8 : Aside0 (Kd.R (Kd.int .i64) 3 w58 w.heap.size (fun k_ => some k_ ≠ (u7 : Value).ownBlock) u8 x8_2) := ⟨(by rw [hw]; exact (by (with_reducible repeat (first | apply Kd.R_alloc | apply Kd.R_drewN | apply Kd.R_drew)); exact Kd.R_mono (Kd.R_far (p := ⟨gb425, 3, none⟩) (Kd.R_far (p := ⟨gb425, 2, none⟩) (Kd.R_far (p := ⟨gb425, 1, none⟩) (Kd.R_far (p := ⟨gb425, 0, none⟩) (Kd.R_far (p := ⟨gb446, 3, none⟩) (Kd.R_far (p := ⟨gb446, 2, none⟩) (Kd.R_far (p := ⟨gb446, 1, none⟩) (Kd.R_far (p := ⟨gb446, 0, none⟩) (Kd.R_far (p := ⟨gb445, 3, none⟩) (Kd.R_far (p := ⟨gb445, 2, none⟩) (Kd.R_far (p := ⟨gb445, 1, none⟩) (Kd.R_far (p := ⟨gb445, 0, none⟩) (Kd.R_types (Kd.R_types (Kd.R_types HO_8.out BK445.out (by decide)) BK446.out (by decide)) BK425.out (by decide)) (fun _ hk => hk.1.1.2) (.int .i64 t433)) (fun _ hk => hk.1.1.2) (.int .i64 t434)) (fun _ hk => hk.1.1.2) (.slice Ao43 t435.length co43)) (fun _ hk => hk.1.1.2) (.slice Ao45 t438.length co45)) (fun _ hk => hk.1.2) (.bool t441)) (fun _ hk => hk.1.2) (.int .i64 t442)) (fun _ hk => hk.1.2) (.int .i64 t443)) (fun _ hk => hk.1.2) (.int .i64 t444)) (fun _ hk => hk.2) (.int .i64 t433)) (fun _ hk => hk.2) (.int .i64 t434)) (fun _ hk => hk.2) (.slice Ao43 t435.length co43)) (fun _ hk => hk.2) (.slice Ao45 t438.length co45)) (fun _ hk => hk.1.1.1)))⟩; replace HO_426002 : Aside0 (Kd.V (Kd.int .i64) 3 w58 w.heap.size (fun k_ => some k_ ≠ (u7 : Value).ownBlock ∧ some k_ ≠ (u8 : Value).ownBlock ∧ k_ ≠ gb422 ∧ k_ ≠ gb425 ∧ k_ ≠ gb445 ∧ k_ ≠ gb446) (.slice Ao34 x426002_2.length co34) x426002_2) := ⟨(by rw [hw]; exact (by (with_reducible repeat (first | apply Kd.V_alloc | apply Kd.V_drewN | apply Kd.V_drew)); exact Kd.V_mono (Kd.V_far (p := ⟨gb425, 3, none⟩) (Kd.V_far (p := ⟨gb425, 2, none⟩) (Kd.V_far (p := ⟨gb425, 1, none⟩) (Kd.V_far (p := ⟨gb425, 0, none⟩) (Kd.V_far (p := ⟨gb446, 3, none⟩) (Kd.V_far (p := ⟨gb446, 2, none⟩) (Kd.V_far (p := ⟨gb446, 1, none⟩) (Kd.V_far (p := ⟨gb446, 0, none⟩) (Kd.V_far (p := ⟨gb445, 3, none⟩) (Kd.V_far (p := ⟨gb445, 2, none⟩) (Kd.V_far (p := ⟨gb445, 1, none⟩) (Kd.V_far (p := ⟨gb445, 0, none⟩) (Kd.V_mono (Kd.V_mono (Kd.V_mono HO_426002.out (fun k_ hk => (⟨hk, hk.2.2.2.2.1⟩ : _ ∧ k_ ≠ gb445))) (fun k_ hk => (⟨hk, hk.1.2.2.2.2.2⟩ : _ ∧ k_ ≠ gb446))) (fun k_ hk => (⟨hk, hk.1.1.2.2.2.1⟩ : _ ∧ k_ ≠ gb425))) (fun _ hk => hk.1.1.2) (.int .i64 t433)) (fun _ hk => hk.1.1.2) (.int .i64 t434)) (fun _ hk => hk.1.1.2) (.slice Ao43 t435.length co43)) (fun _ hk => hk.1.1.2) (.slice Ao45 t438.length co45)) (fun _ hk => hk.1.2) (.bool t441)) (fun _ hk => hk.1.2) (.int .i64 t442)) (fun _ hk => hk.1.2) (.int .i64 t443)) (fun _ hk => hk.1.2) (.int .i64 t444)) (fun _ hk => hk.2) (.int .i64 t433)) (fun _ hk => hk.2) (.int .i64 t434)) (fun _ hk => hk.2) (.slice Ao43 t435.length co43)) (fun _ hk => hk.2) (.slice Ao45 t438.length co45)) (fun _ hk => ⟨hk.1.1.1.1, ⟨hk.1.1.1.2.1, ⟨hk.1.1.1.2.2.1, ⟨hk.1.1.1.2.2.2.1, ⟨hk.1.1.1.2.2.2.2.1, hk.1.1.1.2.2.2.2.2⟩⟩⟩⟩⟩)))⟩; replace HO_426003 : Aside0 (Kd.V k57 57 w58 w.heap.size (fun k_ => some k_ ≠ (u7 : Value).ownBlock ∧ some k_ ≠ (u8 : Value).ownBlock ∧ k_ ≠ gb422 ∧ k_ ≠ gb425 ∧ k_ ≠ gb445 ∧ k_ ≠ gb446) (.slice Ao35 x426003_2.length co35) x426003_2) := ⟨(by rw [hw]; exact (by (with_reducible repeat (first | apply Kd.V_alloc | apply Kd.V_drewN | apply Kd.V_drew)); exact Kd.V_mono (Kd.V_far (p := ⟨gb425, 3, none⟩) (Kd.V_far (p := ⟨gb425, 2, none⟩) (Kd.V_far (p := ⟨gb425, 1, none⟩) (Kd.V_far (p := ⟨gb425, 0, none⟩) (Kd.V_far (p := ⟨gb446, 3, none⟩) (Kd.V_far (p := ⟨gb446, 2, none⟩) (Kd.V_far (p := ⟨gb446, 1, none⟩) (Kd.V_far (p := ⟨gb446, 0, none⟩) (Kd.V_far (p := ⟨gb445, 3, none⟩) (Kd.V_far (p := ⟨gb445, 2, none⟩) (Kd.V_far (p := ⟨gb445, 1, none⟩) (Kd.V_far (p := ⟨gb445, 0, none⟩) (Kd.V_mono (Kd.V_mono (Kd.V_mono HO_426003.out (fun k_ hk => (⟨hk, hk.2.2.2.2.1⟩ : _ ∧ k_ ≠ gb445))) (fun k_ hk => (⟨hk, hk.1.2.2.2.2.2⟩ : _ ∧ k_ ≠ gb446))) (fun k_ hk => (⟨hk, hk.1.1.2.2.2.1⟩ : _ ∧ k_ ≠ gb425))) (fun _ hk => hk.1.1.2) (.int .i64 t433)) (fun _ hk => hk.1.1.2) (.int .i64 t434)) (fun _ hk => hk.1.1.2) (.slice Ao43 t435.length co43)) (fun _ hk => hk.1.1.2) (.slice Ao45 t438.length co45)) (fun _ hk => hk.1.2) (.bool t441)) (fun _ hk => hk.1.2) (.int .i64 t442)) (fun _ hk => hk.1.2) (.int .i64 t443)) (fun _ hk => hk.1.2) (.int .i64 t444)) (fun _ hk => hk.2) (.int .i64 t433)) (fun _ hk => hk.2) (.int .i64 t434)) (fun _ hk => hk.2) (.slice Ao43 t435.length co43)) (fun _ hk => hk.2) (.slice Ao45 t438.length co45)) (fun _ hk => ⟨hk.1.1.1.1, ⟨hk.1.1.1.2.1, ⟨hk.1.1.1.2.2.1, ⟨hk.1.1.1.2.2.2.1, ⟨hk.1.1.1.2.2.2.2.1, hk.1.1.1.2.2.2.2.2⟩⟩⟩⟩⟩)))⟩; replace HO437 : Aside0 (Kd.V (Kd.int .i64) 3 w58 w.heap.size (fun k_ => some k_ ≠ (u7 : Value).ownBlock ∧ some k_ ≠ (u8 : Value).ownBlock ∧ k_ ≠ gb422 ∧ k_ ≠ gb425 ∧ k_ ≠ gb445 ∧ k_ ≠ gb446) (.slice Ao43 t435.length co43) t435) := ⟨(by rw [hw]; exact (by (with_reducible repeat (first | apply Kd.V_alloc | apply Kd.V_drewN | apply Kd.V_drew)); exact Kd.V_mono (Kd.V_far (p := ⟨gb425, 3, none⟩) (Kd.V_far (p := ⟨gb425, 2, none⟩) (Kd.V_far (p := ⟨gb425, 1, none⟩) (Kd.V_far (p := ⟨gb425, 0, none⟩) (Kd.V_far (p := ⟨gb446, 3, none⟩) (Kd.V_far (p := ⟨gb446, 2, none⟩) (Kd.V_far (p := ⟨gb446, 1, none⟩) (Kd.V_far (p := ⟨gb446, 0, none⟩) (Kd.V_far (p := ⟨gb445, 3, none⟩) (Kd.V_far (p := ⟨gb445, 2, none⟩) (Kd.V_far (p := ⟨gb445, 1, none⟩) (Kd.V_far (p := ⟨gb445, 0, none⟩) (Kd.V_mono (Kd.V_mono (Kd.V_mono HO437.out (fun k_ hk => (⟨hk, hk.2.2.2.2.1⟩ : _ ∧ k_ ≠ gb445))) (fun k_ hk => (⟨hk, hk.1.2.2.2.2.2⟩ : _ ∧ k_ ≠ gb446))) (fun k_ hk => (⟨hk, hk.1.1.2.2.2.1⟩ : _ ∧ k_ ≠ gb425))) (fun _ hk => hk.1.1.2) (.int .i64 t433)) (fun _ hk => hk.1.1.2) (.int .i64 t434)) (fun _ hk => hk.1.1.2) (.slice Ao43 t435.length co43)) (fun _ hk => hk.1.1.2) (.slice Ao45 t438.length co45)) (fun _ hk => hk.1.2) (.bool t441)) (fun _ hk => hk.1.2) (.int .i64 t442)) (fun _ hk => hk.1.2) (.int .i64 t443)) (fun _ hk => hk.1.2) (.int .i64 t444)) (fun _ hk => hk.2) (.int .i64 t433)) (fun _ hk => hk.2) (.int .i64 t434)) (fun _ hk => hk.2) (.slice Ao43 t435.length co43)) (fun _ hk => hk.2) (.slice Ao45 t438.length co45)) (fun _ hk => ⟨hk.1.1.1.1, ⟨hk.1.1.1.2.1, ⟨hk.1.1.1.2.2.1, ⟨hk.1.1.1.2.2.2.1, ⟨hk.1.1.1.2.2.2.2.1, hk.1.1.1.2.2.2.2.2⟩⟩⟩⟩⟩)))⟩; replace HO440 : Aside0 (Kd.V k57 57 w58 w.heap.size (fun k_ => some k_ ≠ (u7 : Value).ownBlock ∧ some k_ ≠ (u8 : Value).ownBlock ∧ k_ ≠ gb422 ∧ k_ ≠ gb425 ∧ k_ ≠ gb445 ∧ k_ ≠ gb446) (.slice Ao45 t438.length co45) t438) := ⟨(by rw [hw]; exact (by (with_reducible repeat (first | apply Kd.V_alloc | apply Kd.V_drewN | apply Kd.V_drew)); exact Kd.V_mono (Kd.V_far (p := ⟨gb425, 3, none⟩) (Kd.V_far (p := ⟨gb425, 2, none⟩) (Kd.V_far (p := ⟨gb425, 1, none⟩) (Kd.V_far (p := ⟨gb425, 0, none⟩) (Kd.V_far (p := ⟨gb446, 3, none⟩) (Kd.V_far (p := ⟨gb446, 2, none⟩) (Kd.V_far (p := ⟨gb446, 1, none⟩) (Kd.V_far (p := ⟨gb446, 0, none⟩) (Kd.V_far (p := ⟨gb445, 3, none⟩) (Kd.V_far (p := ⟨gb445, 2, none⟩) (Kd.V_far (p := ⟨gb445, 1, none⟩) (Kd.V_far (p := ⟨gb445, 0, none⟩) (Kd.V_mono (Kd.V_mono (Kd.V_mono HO440.out (fun k_ hk => (⟨hk, hk.2.2.2.2.1⟩ : _ ∧ k_ ≠ gb445))) (fun k_ hk => (⟨hk, hk.1.2.2.2.2.2⟩ : _ ∧ k_ ≠ gb446))) (fun k_ hk => (⟨hk, hk.1.1.2.2.2.1⟩ : _ ∧ k_ ≠ gb425))) (fun _ hk => hk.1.1.2) (.int .i64 t433)) (fun _ hk => hk.1.1.2) (.int .i64 t434)) (fun _ hk => hk.1.1.2) (.slice Ao43 t435.length co43)) (fun _ hk => hk.1.1.2) (.slice Ao45 t438.length co45)) (fun _ hk => hk.1.2) (.bool t441)) (fun _ hk => hk.1.2) (.int .i64 t442)) (fun _ hk => hk.1.2) (.int .i64 t443)) (fun _ hk => hk.1.2) (.int .i64 t444)) (fun _ hk => hk.2) (.int .i64 t433)) (fun _ hk => hk.2) (.int .i64 t434)) (fun _ hk => hk.2) (.slice Ao43 t435.length co43)) (fun _ hk => hk.2) (.slice Ao45 t438.length co45)) (fun _ hk => ⟨hk.1.1.1.1, ⟨hk.1.1.1.2.1, ⟨hk.1.1.1.2.2.1, ⟨hk.1.1.1.2.2.2.1, ⟨hk.1.1.1.2.2.2.2.1, hk.1.1.1.2.2.2.2.2⟩⟩⟩⟩⟩)))⟩; replace BK422 : Aside0 (w58.heap[gb422]? = some (.cells #[.int .i64 a0_0, .int .i64 a0_1, .int .i64 a0_2, .int .i64 a0_3] 23 (0, 0))) := ⟨(by rw [hw]; exact (by (with_reducible repeat (first | refine blk_drewN ?_ _ | refine blk_drew ?_ | refine blk_alloc ?_ _)); refine blk_far ?_ NB422_425.out _; (with_reducible repeat (first | refine blk_drewN ?_ _ | refine blk_drew ?_ | refine blk_alloc ?_ _)); refine blk_far ?_ NB422_425.out _; (with_reducible repeat (first | refine blk_drewN ?_ _ | refine blk_drew ?_ | refine blk_alloc ?_ _)); refine blk_far ?_ NB422_425.out _; (with_reducible repeat (first | refine blk_drewN ?_ _ | refine blk_drew ?_ | refine blk_alloc ?_ _)); refine blk_far ?_ NB422_425.out _; (with_reducible repeat (first | refine blk_drewN ?_ _ | refine blk_drew ?_ | refine blk_alloc ?_ _)); refine blk_far ?_ NB422_446.out _; (with_reducible repeat (first | refine blk_drewN ?_ _ | refine blk_drew ?_ | refine blk_alloc ?_ _)); refine blk_far ?_ NB422_446.out _; (with_reducible repeat (first | refine blk_drewN ?_ _ | refine blk_drew ?_ | refine blk_alloc ?_ _)); refine blk_far ?_ NB422_446.out _; (with_reducible repeat (first | refine blk_drewN ?_ _ | refine blk_drew ?_ | refine blk_alloc ?_ _)); refine blk_far ?_ NB422_446.out _; (with_reducible repeat (first | refine blk_drewN ?_ _ | refine blk_drew ?_ | refine blk_alloc ?_ _)); refine blk_far ?_ NB422_445.out _; (with_reducible repeat (first | refine blk_drewN ?_ _ | refine blk_drew ?_ | refine blk_alloc ?_ _)); refine blk_far ?_ NB422_445.out _; (with_reducible repeat (first | refine blk_drewN ?_ _ | refine blk_drew ?_ | refine blk_alloc ?_ _)); refine blk_far ?_ NB422_445.out _; (with_reducible repeat (first | refine blk_drewN ?_ _ | refine blk_drew ?_ | refine blk_alloc ?_ _)); refine blk_far ?_ NB422_445.out _; (with_reducible repeat (first | refine blk_drewN ?_ _ | refine blk_drew ?_ | refine blk_alloc ?_ _)); exact BK422.out))⟩; replace BK425 : Aside0 (w58.heap[gb425]? = some (.cells #[.int .i64 t433, .int .i64 t434, .slice Ao43 t435.length co43, .slice Ao45 t438.length co45] 27 (0, 0))) := ⟨(by rw [hw]; exact (by (with_reducible repeat (first | refine blk_drewN ?_ _ | refine blk_drew ?_ | refine blk_alloc ?_ _)); refine blk_put (cs := #[.int .i64 t433, .int .i64 t434, .slice Ao43 t435.length co43, .slice Ao35 x426003_2.length co35]) ?_ 3 _ rfl; (with_reducible repeat (first | refine blk_drewN ?_ _ | refine blk_drew ?_ | refine blk_alloc ?_ _)); refine blk_put (cs := #[.int .i64 t433, .int .i64 t434, .slice Ao34 x426002_2.length co34, .slice Ao35 x426003_2.length co35]) ?_ 2 _ rfl; (with_reducible repeat (first | refine blk_drewN ?_ _ | refine blk_drew ?_ | refine blk_alloc ?_ _)); refine blk_put (cs := #[.int .i64 t433, .int .i64 x426001_2, .slice Ao34 x426002_2.length co34, .slice Ao35 x426003_2.length co35]) ?_ 1 _ rfl; (with_reducible repeat (first | refine blk_drewN ?_ _ | refine blk_drew ?_ | refine blk_alloc ?_ _)); refine blk_put (cs := #[.int .i64 x426000_2, .int .i64 x426001_2, .slice Ao34 x426002_2.length co34, .slice Ao35 x426003_2.length co35]) ?_ 0 _ rfl; (with_reducible repeat (first | refine blk_drewN ?_ _ | refine blk_drew ?_ | refine blk_alloc ?_ _)); refine blk_far ?_ NB425_446.out _; (with_reducible repeat (first | refine blk_drewN ?_ _ | refine blk_drew ?_ | refine blk_alloc ?_ _)); refine blk_far ?_ NB425_446.out _; (with_reducible repeat (first | refine blk_drewN ?_ _ | refine blk_drew ?_ | refine blk_alloc ?_ _)); refine blk_far ?_ NB425_446.out _; (with_reducible repeat (first | refine blk_drewN ?_ _ | refine blk_drew ?_ | refine blk_alloc ?_ _)); refine blk_far ?_ NB425_446.out _; (with_reducible repeat (first | refine blk_drewN ?_ _ | refine blk_drew ?_ | refine blk_alloc ?_ _)); refine blk_far ?_ NB425_445.out _; (with_reducible repeat (first | refine blk_drewN ?_ _ | refine blk_drew ?_ | refine blk_alloc ?_ _)); refine blk_far ?_ NB425_445.out _; (with_reducible repeat (first | refine blk_drewN ?_ _ | refine blk_drew ?_ | refine blk_alloc ?_ _)); refine blk_far ?_ NB425_445.out _; (with_reducible repeat (first | refine blk_drewN ?_ _ | refine blk_drew ?_ | refine blk_alloc ?_ _)); refine blk_far ?_ NB425_445.out _; (with_reducible repeat (first | refine blk_drewN ?_ _ | refine blk_drew ?_ | refine blk_alloc ?_ _)); exact BK425.out))⟩; replace BK445 : Aside0 (w58.heap[gb445]? = some (.cells #[.int .i64 t433, .int .i64 t434, .slice Ao43 t435.length co43, .slice Ao45 t438.length co45] 27 (0, 0))) := ⟨(by rw [hw]; exact (by (with_reducible repeat (first | refine blk_drewN ?_ _ | refine blk_drew ?_ | refine blk_alloc ?_ _)); refine blk_far ?_ NB445_425.out _; (with_reducible repeat (first | refine blk_drewN ?_ _ | refine blk_drew ?_ | refine blk_alloc ?_ _)); refine blk_far ?_ NB445_425.out _; (with_reducible repeat (first | refine blk_drewN ?_ _ | refine blk_drew ?_ | refine blk_alloc ?_ _)); refine blk_far ?_ NB445_425.out _; (with_reducible repeat (first | refine blk_drewN ?_ _ | refine blk_drew ?_ | refine blk_alloc ?_ _)); refine blk_far ?_ NB445_425.out _; (with_reducible repeat (first | refine blk_drewN ?_ _ | refine blk_drew ?_ | refine blk_alloc ?_ _)); refine blk_far ?_ NB445_446.out _; (with_reducible repeat (first | refine blk_drewN ?_ _ | refine blk_drew ?_ | refine blk_alloc ?_ _)); refine blk_far ?_ NB445_446.out _; (with_reducible repeat (first | refine blk_drewN ?_ _ | refine blk_drew ?_ | refine blk_alloc ?_ _)); refine blk_far ?_ NB445_446.out _; (with_reducible repeat (first | refine blk_drewN ?_ _ | refine blk_drew ?_ | refine blk_alloc ?_ _)); refine blk_far ?_ NB445_446.out _; (with_reducible repeat (first | refine blk_drewN ?_ _ | refine blk_drew ?_ | refine blk_alloc ?_ _)); refine blk_put (cs := #[.int .i64 t433, .int .i64 t434, .slice Ao43 t435.length co43, .slice none 0 0]) ?_ 3 _ rfl; (with_reducible repeat (first | refine blk_drewN ?_ _ | refine blk_drew ?_ | refine blk_alloc ?_ _)); refine blk_put (cs := #[.int .i64 t433, .int .i64 t434, .slice none 0 0, .slice none 0 0]) ?_ 2 _ rfl; (with_reducible repeat (first | refine blk_drewN ?_ _ | refine blk_drew ?_ | refine blk_alloc ?_ _)); refine blk_put (cs := #[.int .i64 t433, .int .i64 0, .slice none 0 0, .slice none 0 0]) ?_ 1 _ rfl; (with_reducible repeat (first | refine blk_drewN ?_ _ | refine blk_drew ?_ | refine blk_alloc ?_ _)); refine blk_put (cs := #[.int .i64 0, .int .i64 0, .slice none 0 0, .slice none 0 0]) ?_ 0 _ rfl; (with_reducible repeat (first | refine blk_drewN ?_ _ | refine blk_drew ?_ | refine blk_alloc ?_ _)); exact BK445.out))⟩; replace BK446 : Aside0 (w58.heap[gb446]? = some (.cells #[.bool t441, .int .i64 t442, .int .i64 t443, .int .i64 t444] 32 (0, 0))) := ⟨(by rw [hw]; exact (by (with_reducible repeat (first | refine blk_drewN ?_ _ | refine blk_drew ?_ | refine blk_alloc ?_ _)); refine blk_far ?_ NB446_425.out _; (with_reducible repeat (first | refine blk_drewN ?_ _ | refine blk_drew ?_ | refine blk_alloc ?_ _)); refine blk_far ?_ NB446_425.out _; (with_reducible repeat (first | refine blk_drewN ?_ _ | refine blk_drew ?_ | refine blk_alloc ?_ _)); refine blk_far ?_ NB446_425.out _; (with_reducible repeat (first | refine blk_drewN ?_ _ | refine blk_drew ?_ | refine blk_alloc ?_ _)); refine blk_far ?_ NB446_425.out _; (with_reducible repeat (first | refine blk_drewN ?_ _ | refine blk_drew ?_ | refine blk_alloc ?_ _)); refine blk_put (cs := #[.bool t441, .int .i64 t442, .int .i64 t443, .int .i64 0]) ?_ 3 _ rfl; (with_reducible repeat (first | refine blk_drewN ?_ _ | refine blk_drew ?_ | refine blk_alloc ?_ _)); refine blk_put (cs := #[.bool t441, .int .i64 t442, .int .i64 0, .int .i64 0]) ?_ 2 _ rfl; (with_reducible repeat (first | refine blk_drewN ?_ _ | refine blk_drew ?_ | refine blk_alloc ?_ _)); refine blk_put (cs := #[.bool t441, .int .i64 0, .int .i64 0, .int .i64 0]) ?_ 1 _ rfl; (with_reducible repeat (first | refine blk_drewN ?_ _ | refine blk_drew ?_ | refine blk_alloc ?_ _)); refine blk_put (cs := #[.bool false, .int .i64 0, .int .i64 0, .int .i64 0]) ?_ 0 _ rfl; (with_reducible repeat (first | refine blk_drewN ?_ _ | refine blk_drew ?_ | refine blk_alloc ?_ _)); refine blk_far ?_ NB446_445.out _; (with_reducible repeat (first | refine blk_drewN ?_ _ | refine blk_drew ?_ | refine blk_alloc ?_ _)); refine blk_far ?_ NB446_445.out _; (with_reducible repeat (first | refine blk_drewN ?_ _ | refine blk_drew ?_ | refine blk_alloc ?_ _)); refine blk_far ?_ NB446_445.out _; (with_reducible repeat (first | refine blk_drewN ?_ _ | refine blk_drew ?_ | refine blk_alloc ?_ _)); refine blk_far ?_ NB446_445.out _; (with_reducible repeat (first | refine blk_drewN ?_ _ | refine blk_drew ?_ | refine blk_alloc ?_ _)); exact BK446.out))⟩; replace HB : Aside0 (Below w.heap.size w w58) := ⟨(by rw [hw]; exact (bl HB))⟩; clear hw) | ((with_reducible refine gate_builtin (b := .append) (xs := #[.tmp 79, .tmp 81]) rfl ?_); at_builtin; refine Kd.R_append (Kd.int .i64) (w0 := w) w.heap.size rfl (.tmp 79) (.tmp 81) 24 3 (.int .i64 0) 8 rfl Try.underlying24 info3 rfl (by decide) (by omega) u7 x7_2 (wrap64 (x6_2 + ((rd_T45 l1 x9_2).f0))) [.int .i64 (wrap64 (x6_2 + ((rd_T45 l1 x9_2).f0)))] (fun k_ => some k_ ≠ (u8 : Value).ownBlock) (fun _ => False) rfl rfl ?aP (fun _ hk => hk.elim) ?aF ?aO ?aB ?aS ?aL ?_; (case aP => exact rfl); (case aB => exact (bl HB)); (case aF => exact (fun k_ hk => Kd.fresh' (Kd.R_lt (by (with_reducible repeat (first | apply Kd.R_alloc | apply Kd.R_drewN | apply Kd.R_drew)); exact HO_8.out)) k_ hk)); (case aO => exact (by (with_reducible repeat (first | apply Kd.R_alloc | apply Kd.R_drewN | apply Kd.R_drew)); exact HO_7.out)); (case aS => exact (below_size (bl HB))); (case aL => have := LMc32.out; omega); intro v448 w59 ho hb hg hat; rw [← Ny447.out] at ho; have HO449 := Aside0.mk (ho); replace HO_8 := Aside0.mk (Kd.R_after (ok := (fun _ => True)) (by (with_reducible repeat (first | apply Kd.R_alloc | apply Kd.R_drewN | apply Kd.R_drew)); exact Kd.R_mono HO_8.out (fun _ hk => ⟨trivial, hk⟩)) hg hat); replace HO_426002 := Aside0.mk (Kd.V_afterv (ok := (fun k_ => some k_ ≠ (u8 : Value).ownBlock ∧ k_ ≠ gb422 ∧ k_ ≠ gb425 ∧ k_ ≠ gb445 ∧ k_ ≠ gb446)) (by (with_reducible repeat (first | apply Kd.V_alloc | apply Kd.V_drewN | apply Kd.V_drew)); exact Kd.V_mono HO_426002.out (fun _ hk => ⟨⟨hk.2.1, ⟨hk.2.2.1, ⟨hk.2.2.2.1, ⟨hk.2.2.2.2.1, hk.2.2.2.2.2⟩⟩⟩⟩, hk.1⟩)) hg hat); replace HO_426003 := Aside0.mk (Kd.V_afterv (ok := (fun k_ => some k_ ≠ (u8 : Value).ownBlock ∧ k_ ≠ gb422 ∧ k_ ≠ gb425 ∧ k_ ≠ gb445 ∧ k_ ≠ gb446)) (by (with_reducible repeat (first | apply Kd.V_alloc | apply Kd.V_drewN | apply Kd.V_drew)); exact Kd.V_mono HO_426003.out (fun _ hk => ⟨⟨hk.2.1, ⟨hk.2.2.1, ⟨hk.2.2.2.1, ⟨hk.2.2.2.2.1, hk.2.2.2.2.2⟩⟩⟩⟩, hk.1⟩)) hg hat); replace BK422 := Aside0.mk (blk_grown (g := gb422) (o := .cells #[.int .i64 a0_0, .int .i64 a0_1, .int .i64 a0_2, .int .i64 a0_3] 23 (0, 0)) (bo BK422) hg (Kd.R_ne HO_7.out BK422.out (by decide))); replace BK425 := Aside0.mk (blk_grown (g := gb425) (o := .cells #[.int .i64 t433, .int .i64 t434, .slice Ao43 t435.length co43, .slice Ao45 t438.length co45] 27 (0, 0)) (bo BK425) hg (Kd.R_ne HO_7.out BK425.out (by decide))); replace HO437 := Aside0.mk (Kd.V_afterv (ok := (fun k_ => some k_ ≠ (u8 : Value).ownBlock ∧ k_ ≠ gb422 ∧ k_ ≠ gb425 ∧ k_ ≠ gb445 ∧ k_ ≠ gb446)) (by (with_reducible repeat (first | apply Kd.V_alloc | apply Kd.V_drewN | apply Kd.V_drew)); exact Kd.V_mono HO437.out (fun _ hk => ⟨⟨hk.2.1, ⟨hk.2.2.1, ⟨hk.2.2.2.1, ⟨hk.2.2.2.2.1, hk.2.2.2.2.2⟩⟩⟩⟩, hk.1⟩)) hg hat); replace HO440 := Aside0.mk (Kd.V_afterv (ok := (fun k_ => some k_ ≠ (u8 : Value).ownBlock ∧ k_ ≠ gb422 ∧ k_ ≠ gb425 ∧ k_ ≠ gb445 ∧ k_ ≠ gb446)) (by (with_reducible repeat (first | apply Kd.V_alloc | apply Kd.V_drewN | apply Kd.V_drew)); exact Kd.V_mono HO440.out (fun _ hk => ⟨⟨hk.2.1, ⟨hk.2.2.1, ⟨hk.2.2.2.1, ⟨hk.2.2.2.2.1, hk.2.2.2.2.2⟩⟩⟩⟩, hk.1⟩)) hg hat); replace BK445 := Aside0.mk (blk_grown (g := gb445) (o := .cells #[.int .i64 t433, .int .i64 t434, .slice Ao43 t435.length co43, .slice Ao45 t438.length co45] 27 (0, 0)) (bo BK445) hg (Kd.R_ne HO_7.out BK445.out (by decide))); replace BK446 := Aside0.mk (blk_grown (g := gb446) (o := .cells #[.bool t441, .int .i64 t442, .int .i64 t443, .int .i64 t444] 32 (0, 0)) (bo BK446) hg (Kd.R_ne HO_7.out BK446.out (by decide))); replace HB := Aside0.mk (hb); clear HO_7; clear ho hb hg hat; have hnb60 := NB446_422.out; have hnc60 := NB422_446.out; obtain ⟨hcz61_0, hcz61_1, hcz61_2, hcz61_3⟩ := ce4 BK446; obtain ⟨hfz61_0, hfz61_1, hfz61_2, hfz61_3⟩ := fr4 BK446))
                          (try simp only [Act.put, List.setIfInBounds_toArray, List.set_cons_zero, List.set_cons_succ])
                          go_cut [8] (fun v8 wc => ∃ (kq : Nat) (x8_32 : List Int), Aside0 (sandglasslaw10_GcraRate.j3 kq l1 (wrap64 (x6_2 + ((rd_T45 l1 x9_2).f0))) y447 x8_32 x9_2 a0_0 a0_1 a0_2 a0_3 t433 t434 t435 t438 = some r) ∧ Aside0 (kq ≤ kj20) ∧ Aside0 (Kd.R (Kd.int .i64) 3 wc w.heap.size (fun k_ => some k_ ≠ (v8 : Value).ownBlock) v448 y447) ∧ Aside0 (Kd.R (Kd.int .i64) 3 wc w.heap.size (fun k_ => some k_ ≠ (v448 : Value).ownBlock) v8 x8_32) ∧ Aside0 (Kd.V (Kd.int .i64) 3 wc w.heap.size (fun k_ => some k_ ≠ (v448 : Value).ownBlock ∧ some k_ ≠ (v8 : Value).ownBlock ∧ k_ ≠ gb422 ∧ k_ ≠ gb425 ∧ k_ ≠ gb445 ∧ k_ ≠ gb446) (.slice Ao43 t435.length co43) t435) ∧ Aside0 (Kd.V k57 57 wc w.heap.size (fun k_ => some k_ ≠ (v448 : Value).ownBlock ∧ some k_ ≠ (v8 : Value).ownBlock ∧ k_ ≠ gb422 ∧ k_ ≠ gb425 ∧ k_ ≠ gb445 ∧ k_ ≠ gb446) (.slice Ao45 t438.length co45) t438) ∧ Aside0 (Kd.V (Kd.int .i64) 3 wc w.heap.size (fun k_ => some k_ ≠ (v448 : Value).ownBlock ∧ some k_ ≠ (v8 : Value).ownBlock ∧ k_ ≠ gb422 ∧ k_ ≠ gb425 ∧ k_ ≠ gb445 ∧ k_ ≠ gb446) (.slice Ao43 t435.length co43) t435) ∧ Aside0 (Kd.V k57 57 wc w.heap.size (fun k_ => some k_ ≠ (v448 : Value).ownBlock ∧ some k_ ≠ (v8 : Value).ownBlock ∧ k_ ≠ gb422 ∧ k_ ≠ gb425 ∧ k_ ≠ gb445 ∧ k_ ≠ gb446) (.slice Ao45 t438.length co45) t438) ∧ Aside0 (wc.heap[gb422]? = some (.cells #[.int .i64 a0_0, .int .i64 a0_1, .int .i64 a0_2, .int .i64 a0_3] 23 (0, 0))) ∧ Aside0 (wc.heap[gb425]? = some (.cells #[.int .i64 t433, .int .i64 t434, (.slice Ao43 t435.length co43), (.slice Ao45 t438.length co45)] 27 (0, 0))) ∧ Aside0 (wc.heap[gb445]? = some (.cells #[.int .i64 t433, .int .i64 t434, (.slice Ao43 t435.length co43), (.slice Ao45 t438.length co45)] 27 (0, 0))) ∧ Aside0 (wc.heap[gb446]? = some (.cells #[.bool t441, .int .i64 t442, .int .i64 t443, .int .i64 t444] 32 (0, 0))) ∧ Aside0 (Below w.heap.size w wc))
                          case first =>
                            have H := HC33.out
                            clear HC33
                            by_cases c62 : t441 = true
                            · subst c62
                              rw [if_pos rfl] at H
                              by_cases c63 : x8_2.length < 17592186044416
                              · rw [if_pos c63] at H
                                have LMc63 := Aside0.mk c63
                                clear c63
                                obtain ⟨y451, hy451⟩ : ∃ y_ : List Int, y_ = (x8_2 ++ [(rd_T45 l1 x9_2).f1]) := ⟨_, rfl⟩
                                replace H : (sandglasslaw10_GcraRate.j3 kj20 l1 (wrap64 (x6_2 + ((rd_T45 l1 x9_2).f0))) y447 y451 x9_2 a0_0 a0_1 a0_2 a0_3 t433 t434 t435 t438) = some r := by first | (rw [hy451]; with_reducible exact H) | (have H2_ := (Option.bind_some _ _).symm.trans H; rw [hy451]; with_reducible exact H2_) | (have H2_ := (Option.bind_some _ _).symm.trans H; with_reducible exact H2_) | with_reducible exact H | (rw [hy451]; exact H) | exact H
                                have Ny451 := Aside0.mk hy451
                                clear hy451
                                have H' := Aside0.mk H
                                clear H
                                have p450 : 0 ≤ (x9_2 : Int) := of_decide_eq_true (by first | (with_reducible assumption) | assumption)
                                have q450 : x9_2 < (l1.length : Int) := of_decide_eq_true (by first | (with_reducible assumption) | assumption)
                                obtain ⟨ad450, e450, hx450_0, hx450_1⟩ := at_T45 HR1.out x9_2 p450 q450
                                obtain rfl : ad431 = ad450 := (by injection e450)
                                replace hx450_0 := (HB.out.cell (World.block_lt_of_cell? w _ hx450_0)).trans hx450_0
                                replace hx450_1 := (HB.out.cell (World.block_lt_of_cell? w _ hx450_1)).trans hx450_1
                                replace p450 := eq_true p450
                                replace q450 := eq_true q450
                                go_wp2_with (first | ((with_reducible refine gate_builtin (b := .append) (xs := #[.tmp 85, .tmp 91]) rfl ?_); at_builtin; refine Kd.R_append (Kd.int .i64) (w0 := w) w.heap.size rfl (.tmp 85) (.tmp 91) 24 3 (.int .i64 0) 8 rfl Try.underlying24 info3 rfl (by decide) (by omega) u8 x8_2 ((rd_T45 l1 x9_2).f1) [.int .i64 ((rd_T45 l1 x9_2).f1)] (fun k_ => some k_ ≠ (v448 : Value).ownBlock) (fun _ => False) rfl rfl ?aP (fun _ hk => hk.elim) ?aF ?aO ?aB ?aS ?aL ?_; (case aP => exact rfl); (case aB => exact (bl HB)); (case aF => exact (fun k_ hk => Kd.fresh' (Kd.R_lt (by (with_reducible repeat (first | apply Kd.R_alloc | apply Kd.R_drewN | apply Kd.R_drew)); exact HO449.out)) k_ hk)); (case aO => exact (by (with_reducible repeat (first | apply Kd.R_alloc | apply Kd.R_drewN | apply Kd.R_drew)); exact Kd.R_mono HO_8.out (fun _ hk => hk.2))); (case aS => exact (below_size (bl HB))); (case aL => have := LMc63.out; omega); intro v452 w64 ho hb hg hat; rw [← Ny451.out] at ho; have HO453 := Aside0.mk (ho); replace HO_426002 := Aside0.mk (Kd.V_afterv (ok := (fun k_ => some k_ ≠ (v448 : Value).ownBlock ∧ k_ ≠ gb422 ∧ k_ ≠ gb425 ∧ k_ ≠ gb445 ∧ k_ ≠ gb446)) (by (with_reducible repeat (first | apply Kd.V_alloc | apply Kd.V_drewN | apply Kd.V_drew)); exact Kd.V_mono HO_426002.out (fun _ hk => ⟨⟨hk.2, ⟨hk.1.2.1, ⟨hk.1.2.2.1, ⟨hk.1.2.2.2.1, hk.1.2.2.2.2⟩⟩⟩⟩, hk.1.1⟩)) hg hat); replace HO_426003 := Aside0.mk (Kd.V_afterv (ok := (fun k_ => some k_ ≠ (v448 : Value).ownBlock ∧ k_ ≠ gb422 ∧ k_ ≠ gb425 ∧ k_ ≠ gb445 ∧ k_ ≠ gb446)) (by (with_reducible repeat (first | apply Kd.V_alloc | apply Kd.V_drewN | apply Kd.V_drew)); exact Kd.V_mono HO_426003.out (fun _ hk => ⟨⟨hk.2, ⟨hk.1.2.1, ⟨hk.1.2.2.1, ⟨hk.1.2.2.2.1, hk.1.2.2.2.2⟩⟩⟩⟩, hk.1.1⟩)) hg hat); replace BK422 := Aside0.mk (blk_grown (g := gb422) (o := .cells #[.int .i64 a0_0, .int .i64 a0_1, .int .i64 a0_2, .int .i64 a0_3] 23 (0, 0)) (bo BK422) hg (Kd.R_ne HO_8.out BK422.out (by decide))); replace BK425 := Aside0.mk (blk_grown (g := gb425) (o := .cells #[.int .i64 t433, .int .i64 t434, .slice Ao43 t435.length co43, .slice Ao45 t438.length co45] 27 (0, 0)) (bo BK425) hg (Kd.R_ne HO_8.out BK425.out (by decide))); replace HO437 := Aside0.mk (Kd.V_afterv (ok := (fun k_ => some k_ ≠ (v448 : Value).ownBlock ∧ k_ ≠ gb422 ∧ k_ ≠ gb425 ∧ k_ ≠ gb445 ∧ k_ ≠ gb446)) (by (with_reducible repeat (first | apply Kd.V_alloc | apply Kd.V_drewN | apply Kd.V_drew)); exact Kd.V_mono HO437.out (fun _ hk => ⟨⟨hk.2, ⟨hk.1.2.1, ⟨hk.1.2.2.1, ⟨hk.1.2.2.2.1, hk.1.2.2.2.2⟩⟩⟩⟩, hk.1.1⟩)) hg hat); replace HO440 := Aside0.mk (Kd.V_afterv (ok := (fun k_ => some k_ ≠ (v448 : Value).ownBlock ∧ k_ ≠ gb422 ∧ k_ ≠ gb425 ∧ k_ ≠ gb445 ∧ k_ ≠ gb446)) (by (with_reducible repeat (first | apply Kd.V_alloc | apply Kd.V_drewN | apply Kd.V_drew)); exact Kd.V_mono HO440.out (fun _ hk => ⟨⟨hk.2, ⟨hk.1.2.1, ⟨hk.1.2.2.1, ⟨hk.1.2.2.2.1, hk.1.2.2.2.2⟩⟩⟩⟩, hk.1.1⟩)) hg hat); replace BK445 := Aside0.mk (blk_grown (g := gb445) (o := .cells #[.int .i64 t433, .int .i64 t434, .slice Ao43 t435.length co43, .slice Ao45 t438.length co45] 27 (0, 0)) (bo BK445) hg (Kd.R_ne HO_8.out BK445.out (by decide))); replace BK446 := Aside0.mk (blk_grown (g := gb446) (o := .cells #[.bool true, .int .i64 t442, .int .i64 t443, .int .i64 t444] 32 (0, 0)) (bo BK446) hg (Kd.R_ne HO_8.out BK446.out (by decide))); replace HO449 := Aside0.mk (Kd.R_after (ok := (fun _ => True)) (by (with_reducible repeat (first | apply Kd.R_alloc | apply Kd.R_drewN | apply Kd.R_drew)); exact Kd.R_mono HO449.out (fun _ hk => ⟨trivial, hk⟩)) hg hat); replace HB := Aside0.mk (hb); clear HO_8; clear ho hb hg hat))
                                go_meet
                                case rel => exact ⟨_, (y451), H', ⟨by have := HJ2.out; have := HK2.out; have := HJ20.out; first | omega | exact Nat.le_refl _⟩, ⟨by (with_reducible repeat (first | apply Kd.R_alloc | apply Kd.R_drewN | apply Kd.R_drew)); exact Kd.R_mono HO449.out (fun _ hk => hk.2)⟩, ⟨by (with_reducible repeat (first | apply Kd.R_alloc | apply Kd.R_drewN | apply Kd.R_drew)); exact HO453.out⟩, ⟨by (with_reducible repeat (first | apply Kd.V_alloc | apply Kd.V_drewN | apply Kd.V_drew)); exact Kd.V_mono HO437.out (fun _ hk => ⟨hk.1.1, ⟨hk.2, ⟨hk.1.2.1, ⟨hk.1.2.2.1, ⟨hk.1.2.2.2.1, hk.1.2.2.2.2⟩⟩⟩⟩⟩)⟩, ⟨by (with_reducible repeat (first | apply Kd.V_alloc | apply Kd.V_drewN | apply Kd.V_drew)); exact Kd.V_mono HO440.out (fun _ hk => ⟨hk.1.1, ⟨hk.2, ⟨hk.1.2.1, ⟨hk.1.2.2.1, ⟨hk.1.2.2.2.1, hk.1.2.2.2.2⟩⟩⟩⟩⟩)⟩, ⟨by (with_reducible repeat (first | apply Kd.V_alloc | apply Kd.V_drewN | apply Kd.V_drew)); exact Kd.V_mono HO437.out (fun _ hk => ⟨hk.1.1, ⟨hk.2, ⟨hk.1.2.1, ⟨hk.1.2.2.1, ⟨hk.1.2.2.2.1, hk.1.2.2.2.2⟩⟩⟩⟩⟩)⟩, ⟨by (with_reducible repeat (first | apply Kd.V_alloc | apply Kd.V_drewN | apply Kd.V_drew)); exact Kd.V_mono HO440.out (fun _ hk => ⟨hk.1.1, ⟨hk.2, ⟨hk.1.2.1, ⟨hk.1.2.2.1, ⟨hk.1.2.2.2.1, hk.1.2.2.2.2⟩⟩⟩⟩⟩)⟩, ⟨bo BK422⟩, ⟨bo BK425⟩, ⟨bo BK445⟩, ⟨bo BK446⟩, ⟨bl HB⟩⟩
                              · rw [if_neg c63] at H
                                exact absurd H (by simp)
                            · replace c62 := Bool.eq_false_iff.mpr c62
                              subst c62
                              rw [if_neg (show ¬ (false = true) by decide)] at H
                              by_cases c65 : x8_2.length < 17592186044416
                              · rw [if_pos c65] at H
                                have LMc65 := Aside0.mk c65
                                clear c65
                                obtain ⟨y454, hy454⟩ : ∃ y_ : List Int, y_ = (x8_2 ++ [0]) := ⟨_, rfl⟩
                                replace H : (sandglasslaw10_GcraRate.j3 kj20 l1 (wrap64 (x6_2 + ((rd_T45 l1 x9_2).f0))) y447 y454 x9_2 a0_0 a0_1 a0_2 a0_3 t433 t434 t435 t438) = some r := by first | (rw [hy454]; with_reducible exact H) | (have H2_ := (Option.bind_some _ _).symm.trans H; rw [hy454]; with_reducible exact H2_) | (have H2_ := (Option.bind_some _ _).symm.trans H; with_reducible exact H2_) | with_reducible exact H | (rw [hy454]; exact H) | exact H
                                have Ny454 := Aside0.mk hy454
                                clear hy454
                                have H' := Aside0.mk H
                                clear H
                                go_wp2_with (first | ((with_reducible refine gate_builtin (b := .append) (xs := #[.tmp 93, .tmp 94]) rfl ?_); at_builtin; refine Kd.R_append (Kd.int .i64) (w0 := w) w.heap.size rfl (.tmp 93) (.tmp 94) 24 3 (.int .i64 0) 8 rfl Try.underlying24 info3 rfl (by decide) (by omega) u8 x8_2 0 [.int .i64 0] (fun k_ => some k_ ≠ (v448 : Value).ownBlock) (fun _ => False) rfl rfl ?aP (fun _ hk => hk.elim) ?aF ?aO ?aB ?aS ?aL ?_; (case aP => exact rfl); (case aB => exact (bl HB)); (case aF => exact (fun k_ hk => Kd.fresh' (Kd.R_lt (by (with_reducible repeat (first | apply Kd.R_alloc | apply Kd.R_drewN | apply Kd.R_drew)); exact HO449.out)) k_ hk)); (case aO => exact (by (with_reducible repeat (first | apply Kd.R_alloc | apply Kd.R_drewN | apply Kd.R_drew)); exact Kd.R_mono HO_8.out (fun _ hk => hk.2))); (case aS => exact (below_size (bl HB))); (case aL => have := LMc65.out; omega); intro v455 w66 ho hb hg hat; rw [← Ny454.out] at ho; have HO456 := Aside0.mk (ho); replace HO_426002 := Aside0.mk (Kd.V_afterv (ok := (fun k_ => some k_ ≠ (v448 : Value).ownBlock ∧ k_ ≠ gb422 ∧ k_ ≠ gb425 ∧ k_ ≠ gb445 ∧ k_ ≠ gb446)) (by (with_reducible repeat (first | apply Kd.V_alloc | apply Kd.V_drewN | apply Kd.V_drew)); exact Kd.V_mono HO_426002.out (fun _ hk => ⟨⟨hk.2, ⟨hk.1.2.1, ⟨hk.1.2.2.1, ⟨hk.1.2.2.2.1, hk.1.2.2.2.2⟩⟩⟩⟩, hk.1.1⟩)) hg hat); replace HO_426003 := Aside0.mk (Kd.V_afterv (ok := (fun k_ => some k_ ≠ (v448 : Value).ownBlock ∧ k_ ≠ gb422 ∧ k_ ≠ gb425 ∧ k_ ≠ gb445 ∧ k_ ≠ gb446)) (by (with_reducible repeat (first | apply Kd.V_alloc | apply Kd.V_drewN | apply Kd.V_drew)); exact Kd.V_mono HO_426003.out (fun _ hk => ⟨⟨hk.2, ⟨hk.1.2.1, ⟨hk.1.2.2.1, ⟨hk.1.2.2.2.1, hk.1.2.2.2.2⟩⟩⟩⟩, hk.1.1⟩)) hg hat); replace BK422 := Aside0.mk (blk_grown (g := gb422) (o := .cells #[.int .i64 a0_0, .int .i64 a0_1, .int .i64 a0_2, .int .i64 a0_3] 23 (0, 0)) (bo BK422) hg (Kd.R_ne HO_8.out BK422.out (by decide))); replace BK425 := Aside0.mk (blk_grown (g := gb425) (o := .cells #[.int .i64 t433, .int .i64 t434, .slice Ao43 t435.length co43, .slice Ao45 t438.length co45] 27 (0, 0)) (bo BK425) hg (Kd.R_ne HO_8.out BK425.out (by decide))); replace HO437 := Aside0.mk (Kd.V_afterv (ok := (fun k_ => some k_ ≠ (v448 : Value).ownBlock ∧ k_ ≠ gb422 ∧ k_ ≠ gb425 ∧ k_ ≠ gb445 ∧ k_ ≠ gb446)) (by (with_reducible repeat (first | apply Kd.V_alloc | apply Kd.V_drewN | apply Kd.V_drew)); exact Kd.V_mono HO437.out (fun _ hk => ⟨⟨hk.2, ⟨hk.1.2.1, ⟨hk.1.2.2.1, ⟨hk.1.2.2.2.1, hk.1.2.2.2.2⟩⟩⟩⟩, hk.1.1⟩)) hg hat); replace HO440 := Aside0.mk (Kd.V_afterv (ok := (fun k_ => some k_ ≠ (v448 : Value).ownBlock ∧ k_ ≠ gb422 ∧ k_ ≠ gb425 ∧ k_ ≠ gb445 ∧ k_ ≠ gb446)) (by (with_reducible repeat (first | apply Kd.V_alloc | apply Kd.V_drewN | apply Kd.V_drew)); exact Kd.V_mono HO440.out (fun _ hk => ⟨⟨hk.2, ⟨hk.1.2.1, ⟨hk.1.2.2.1, ⟨hk.1.2.2.2.1, hk.1.2.2.2.2⟩⟩⟩⟩, hk.1.1⟩)) hg hat); replace BK445 := Aside0.mk (blk_grown (g := gb445) (o := .cells #[.int .i64 t433, .int .i64 t434, .slice Ao43 t435.length co43, .slice Ao45 t438.length co45] 27 (0, 0)) (bo BK445) hg (Kd.R_ne HO_8.out BK445.out (by decide))); replace BK446 := Aside0.mk (blk_grown (g := gb446) (o := .cells #[.bool false, .int .i64 t442, .int .i64 t443, .int .i64 t444] 32 (0, 0)) (bo BK446) hg (Kd.R_ne HO_8.out BK446.out (by decide))); replace HO449 := Aside0.mk (Kd.R_after (ok := (fun _ => True)) (by (with_reducible repeat (first | apply Kd.R_alloc | apply Kd.R_drewN | apply Kd.R_drew)); exact Kd.R_mono HO449.out (fun _ hk => ⟨trivial, hk⟩)) hg hat); replace HB := Aside0.mk (hb); clear HO_8; clear ho hb hg hat))
                                go_meet
                                case rel => exact ⟨_, (y454), H', ⟨by have := HJ2.out; have := HK2.out; have := HJ20.out; first | omega | exact Nat.le_refl _⟩, ⟨by (with_reducible repeat (first | apply Kd.R_alloc | apply Kd.R_drewN | apply Kd.R_drew)); exact Kd.R_mono HO449.out (fun _ hk => hk.2)⟩, ⟨by (with_reducible repeat (first | apply Kd.R_alloc | apply Kd.R_drewN | apply Kd.R_drew)); exact HO456.out⟩, ⟨by (with_reducible repeat (first | apply Kd.V_alloc | apply Kd.V_drewN | apply Kd.V_drew)); exact Kd.V_mono HO437.out (fun _ hk => ⟨hk.1.1, ⟨hk.2, ⟨hk.1.2.1, ⟨hk.1.2.2.1, ⟨hk.1.2.2.2.1, hk.1.2.2.2.2⟩⟩⟩⟩⟩)⟩, ⟨by (with_reducible repeat (first | apply Kd.V_alloc | apply Kd.V_drewN | apply Kd.V_drew)); exact Kd.V_mono HO440.out (fun _ hk => ⟨hk.1.1, ⟨hk.2, ⟨hk.1.2.1, ⟨hk.1.2.2.1, ⟨hk.1.2.2.2.1, hk.1.2.2.2.2⟩⟩⟩⟩⟩)⟩, ⟨by (with_reducible repeat (first | apply Kd.V_alloc | apply Kd.V_drewN | apply Kd.V_drew)); exact Kd.V_mono HO437.out (fun _ hk => ⟨hk.1.1, ⟨hk.2, ⟨hk.1.2.1, ⟨hk.1.2.2.1, ⟨hk.1.2.2.2.1, hk.1.2.2.2.2⟩⟩⟩⟩⟩)⟩, ⟨by (with_reducible repeat (first | apply Kd.V_alloc | apply Kd.V_drewN | apply Kd.V_drew)); exact Kd.V_mono HO440.out (fun _ hk => ⟨hk.1.1, ⟨hk.2, ⟨hk.1.2.1, ⟨hk.1.2.2.1, ⟨hk.1.2.2.2.1, hk.1.2.2.2.2⟩⟩⟩⟩⟩)⟩, ⟨bo BK422⟩, ⟨bo BK425⟩, ⟨bo BK445⟩, ⟨bo BK446⟩, ⟨bl HB⟩⟩
                              · rw [if_neg c65] at H
                                exact absurd H (by simp)
                          case rest =>
                            clear HC33
                            try clear c1
                            try clear p2
                            try clear c3
                            try clear p4
                            try clear q4
                            try clear hx4
                            try clear c5
                            try clear c6
                            try clear p6
                            try clear c10
                            try clear c32
                            try clear p45
                            try clear q45
                            try clear hx45
                            try clear c51
                            try clear c52
                            try clear c53
                            try clear c55
                            try clear c56
                            try clear c60
                            try clear c62
                            try clear c63
                            try clear p64
                            try clear c65
                            try clear hcz54_0
                            try clear hcz54_1
                            try clear hcz54_2
                            try clear hcz54_3
                            try clear hcz57_0
                            try clear hcz57_1
                            try clear hcz57_2
                            try clear hcz57_3
                            try clear hcz61_0
                            try clear hcz61_1
                            try clear hcz61_2
                            try clear hcz61_3
                            try clear hfz54_0
                            try clear hfz54_1
                            try clear hfz54_2
                            try clear hfz54_3
                            try clear hfz57_0
                            try clear hfz57_1
                            try clear hfz57_2
                            try clear hfz57_3
                            try clear hfz61_0
                            try clear hfz61_1
                            try clear hfz61_2
                            try clear hfz61_3
                            try clear hx450_0
                            try clear hx450_1
                            try clear p450
                            try clear q450
                            obtain ⟨kq, x8_32, HA, HJ32, HO_7, HO_8, HO_426002, HO_426003, HO_446002, HO_446003, BK422, BK425, BK445, BK446, HB⟩ := hcut
                            cases kq with
                            | zero => exact absurd HA.out (by simp [sandglasslaw10_GcraRate.j3])
                            | succ kj32 =>
                              have H := HA.out
                              clear HA
                              simp only [sandglasslaw10_GcraRate.j3] at H
                              have H' := Aside0.mk H
                              clear H
                              go_wp2
                              go_loopg [12, 13] kj32 (fun kq v12 v13 w' => ∃ (x12_5 : Int) (x13_5 : Int), v12 = .int .i64 x12_5 ∧ v13 = .int .i64 x13_5 ∧ Aside0 (sandglasslaw10_GcraRate.l1 kq l1 (wrap64 (x6_2 + ((rd_T45 l1 x9_2).f0))) y447 x8_32 x9_2 x12_5 x13_5 a0_0 a0_1 a0_2 a0_3 t433 t434 t435 t438 = some r) ∧ Aside0 (kq ≤ kj32) ∧ Aside0 (Kd.R (Kd.int .i64) 3 w' w.heap.size (fun k_ => some k_ ≠ (u8 : Value).ownBlock) v448 y447) ∧ Aside0 (Kd.R (Kd.int .i64) 3 w' w.heap.size (fun k_ => some k_ ≠ (v448 : Value).ownBlock) u8 x8_32) ∧ Aside0 (Kd.V (Kd.int .i64) 3 w' w.heap.size (fun k_ => some k_ ≠ (v448 : Value).ownBlock ∧ some k_ ≠ (u8 : Value).ownBlock ∧ k_ ≠ gb422 ∧ k_ ≠ gb425 ∧ k_ ≠ gb445 ∧ k_ ≠ gb446) (.slice Ao43 t435.length co43) t435) ∧ Aside0 (Kd.V k57 57 w' w.heap.size (fun k_ => some k_ ≠ (v448 : Value).ownBlock ∧ some k_ ≠ (u8 : Value).ownBlock ∧ k_ ≠ gb422 ∧ k_ ≠ gb425 ∧ k_ ≠ gb445 ∧ k_ ≠ gb446) (.slice Ao45 t438.length co45) t438) ∧ Aside0 (Kd.V (Kd.int .i64) 3 w' w.heap.size (fun k_ => some k_ ≠ (v448 : Value).ownBlock ∧ some k_ ≠ (u8 : Value).ownBlock ∧ k_ ≠ gb422 ∧ k_ ≠ gb425 ∧ k_ ≠ gb445 ∧ k_ ≠ gb446) (.slice Ao43 t435.length co43) t435) ∧ Aside0 (Kd.V k57 57 w' w.heap.size (fun k_ => some k_ ≠ (v448 : Value).ownBlock ∧ some k_ ≠ (u8 : Value).ownBlock ∧ k_ ≠ gb422 ∧ k_ ≠ gb425 ∧ k_ ≠ gb445 ∧ k_ ≠ gb446) (.slice Ao45 t438.length co45) t438) ∧ Aside0 (w'.heap[gb422]? = some (.cells #[.int .i64 a0_0, .int .i64 a0_1, .int .i64 a0_2, .int .i64 a0_3] 23 (0, 0))) ∧ Aside0 (w'.heap[gb425]? = some (.cells #[.int .i64 t433, .int .i64 t434, (.slice Ao43 t435.length co43), (.slice Ao45 t438.length co45)] 27 (0, 0))) ∧ Aside0 (w'.heap[gb445]? = some (.cells #[.int .i64 t433, .int .i64 t434, (.slice Ao43 t435.length co43), (.slice Ao45 t438.length co45)] 27 (0, 0))) ∧ Aside0 (w'.heap[gb446]? = some (.cells #[.bool t441, .int .i64 t442, .int .i64 t443, .int .i64 t444] 32 (0, 0))) ∧ Aside0 (Below w.heap.size w w'))
                              case atStart => exact ⟨(0), (x9_2), (by first | (with_reducible rfl) | rfl | (simp; done) | (simp [*]; done)), (by first | (with_reducible rfl) | rfl | (simp; done) | (simp [*]; done)), H', ⟨Nat.le_refl _⟩, ⟨by (with_reducible repeat (first | apply Kd.R_alloc | apply Kd.R_drewN | apply Kd.R_drew)); exact HO_7.out⟩, ⟨by (with_reducible repeat (first | apply Kd.R_alloc | apply Kd.R_drewN | apply Kd.R_drew)); exact HO_8.out⟩, ⟨by (with_reducible repeat (first | apply Kd.V_alloc | apply Kd.V_drewN | apply Kd.V_drew)); exact HO_426002.out⟩, ⟨by (with_reducible repeat (first | apply Kd.V_alloc | apply Kd.V_drewN | apply Kd.V_drew)); exact HO_426003.out⟩, ⟨by (with_reducible repeat (first | apply Kd.V_alloc | apply Kd.V_drewN | apply Kd.V_drew)); exact HO_446002.out⟩, ⟨by (with_reducible repeat (first | apply Kd.V_alloc | apply Kd.V_drewN | apply Kd.V_drew)); exact HO_446003.out⟩, ⟨bo BK422⟩, ⟨bo BK425⟩, ⟨bo BK445⟩, ⟨bo BK446⟩, ⟨bl HB⟩⟩
                              case round =>
                                clear H'
                                try clear c1
                                try clear p2
                                try clear c3
                                try clear p4
                                try clear q4
                                try clear hx4
                                try clear c5
                                try clear c6
                                try clear p6
                                try clear c10
                                try clear c32
                                try clear p45
                                try clear q45
                                try clear hx45
                                try clear c51
                                try clear c52
                                try clear c53
                                try clear c55
                                try clear c56
                                try clear c60
                                try clear c62
                                try clear c63
                                try clear p64
                                try clear c65
                                try clear hcz54_0
                                try clear hcz54_1
                                try clear hcz54_2
                                try clear hcz54_3
                                try clear hcz57_0
                                try clear hcz57_1
                                try clear hcz57_2
                                try clear hcz57_3
                                try clear hcz61_0
                                try clear hcz61_1
                                try clear hcz61_2
                                try clear hcz61_3
                                try clear hfz54_0
                                try clear hfz54_1
                                try clear hfz54_2
                                try clear hfz54_3
                                try clear hfz57_0
                                try clear hfz57_1
                                try clear hfz57_2
                                try clear hfz57_3
                                try clear hfz61_0
                                try clear hfz61_1
                                try clear hfz61_2
                                try clear hfz61_3
                                try clear hx450_0
                                try clear hx450_1
                                try clear p2
                                try clear p4
                                try clear p45
                                try clear p450
                                try clear p6
                                try clear p64
                                try clear q4
                                try clear q45
                                try clear q450
                                obtain ⟨x12_5, x13_5, rfl, rfl, HA, HK5, HO_7, HO_8, HO_426002, HO_426003, HO_446002, HO_446003, BK422, BK425, BK445, BK446, HB⟩ := hrel
                                cases gk with
                                | zero => exact absurd HA.out (by simp [sandglasslaw10_GcraRate.l1])
                                | succ k5 =>
                                  have H := HA.out
                                  clear HA
                                  simp only [sandglasslaw10_GcraRate.l1] at H
                                  by_cases c67 : x13_5 ≥ 0
                                  · rw [if_pos c67] at H
                                    have c67b0 : decide (0 ≤ x13_5) = true := decide_eq_true c67
                                    clear c67
                                    by_cases c68 : 0 ≤ x13_5
                                    · rw [if_pos c68] at H
                                      have c68b0 : decide (0 ≤ x13_5) = true := decide_eq_true c68
                                      clear c68
                                      by_cases c69 : x13_5 < (x8_32.length : Int)
                                      · rw [if_pos c69] at H
                                        have c69b0 : decide (x13_5 < (x8_32.length : Int)) = true := decide_eq_true c69
                                        clear c69
                                        by_cases c70 : x13_5 < (y447.length : Int)
                                        · rw [if_pos c70] at H
                                          have c70b0 : decide (x13_5 < (y447.length : Int)) = true := decide_eq_true c70
                                          clear c70
                                          by_cases c71 : (wrap64 ((wrap64 (x12_5 + (rd x8_32 x13_5))) * a0_2)) > (wrap64 ((wrap64 (a0_1 * a0_2)) + (wrap64 (a0_1 * (wrap64 ((wrap64 (x6_2 + ((rd_T45 l1 x9_2).f0))) - (rd y447 x13_5)))))))
                                          · rw [if_pos c71] at H
                                            exact absurd H (by simp)
                                          · rw [if_neg c71] at H
                                            have c71b0 : decide ((wrap64 ((wrap64 (a0_1 * a0_2)) + (wrap64 (a0_1 * (wrap64 ((wrap64 (x6_2 + ((rd_T45 l1 x9_2).f0))) - (rd y447 x13_5))))))) < (wrap64 ((wrap64 (x12_5 + (rd x8_32 x13_5))) * a0_2))) = false := decide_eq_false c71
                                            clear c71
                                            have H' := Aside0.mk H
                                            clear H
                                            obtain ⟨Ao72, co72, eo72⟩ := Kd.R_slice HO_8.out
                                            subst eo72
                                            have p457 : 0 ≤ (x13_5 : Int) := of_decide_eq_true (by first | (with_reducible assumption) | assumption)
                                            have q457 : x13_5 < (x8_32.length : Int) := of_decide_eq_true (by first | (with_reducible assumption) | assumption)
                                            obtain ⟨ad457, e457, hx457_0⟩ := Kd.at_int (Kd.R_reads' HO_8.out).2.2 x13_5 p457 q457
                                            cases e457
                                            replace p457 := eq_true p457
                                            replace q457 := eq_true q457
                                            try go_wp2
                                            replace HO_7 := Aside0.mk (Kd.R_drew HO_7.out)
                                            replace HO_8 := Aside0.mk (Kd.R_drew HO_8.out)
                                            replace HO_426002 := Aside0.mk (Kd.V_drew HO_426002.out)
                                            replace HO_426003 := Aside0.mk (Kd.V_drew HO_426003.out)
                                            replace HO_446002 := Aside0.mk (Kd.V_drew HO_446002.out)
                                            replace HO_446003 := Aside0.mk (Kd.V_drew HO_446003.out)
                                            replace BK422 := Aside0.mk (blk_drew BK422.out)
                                            replace BK425 := Aside0.mk (blk_drew BK425.out)
                                            replace BK445 := Aside0.mk (blk_drew BK445.out)
                                            replace BK446 := Aside0.mk (blk_drew BK446.out)
                                            replace HB := Aside0.mk (below_drew1 HB.out)
                                            obtain ⟨Ao74, co74, eo74⟩ := Kd.R_slice HO_7.out
                                            (first | subst eo74 | (injection eo74 with f1_ f2_ f3_; have f4_ := f1_.symm; have f5_ := f3_.symm; clear f1_ f2_ f3_; subst f4_; subst f5_))
                                            have p458 : 0 ≤ (x13_5 : Int) := of_decide_eq_true (by first | (with_reducible assumption) | assumption)
                                            have q458 : x13_5 < (y447.length : Int) := of_decide_eq_true (by first | (with_reducible assumption) | assumption)
                                            obtain ⟨ad458, e458, hx458_0⟩ := Kd.at_int (Kd.R_reads' HO_7.out).2.2 x13_5 p458 q458
                                            cases e458
                                            replace p458 := eq_true p458
                                            replace q458 := eq_true q458
                                            refine start_ (n := 20) (S := fun w' => w'.cell? ⟨gb422, 0, none⟩ = some (.int .i64 a0_0) ∧ w'.cell? ⟨gb422, 1, none⟩ = some (.int .i64 a0_1) ∧ w'.cell? ⟨gb422, 2, none⟩ = some (.int .i64 a0_2) ∧ w'.cell? ⟨gb422, 3, none⟩ = some (.int .i64 a0_3) ∧ w'.cell? (ad458.add (x13_5).toNat) = some (.int .i64 (rd y447 x13_5))) (ds := []) #[false, false, false, false, false, false, false, false, false, false, false, false, false, false, false, false, false, false, false, false] (by kernel_rfl) rfl rfl ⟨(blk_cell BK422.out 0).trans rfl, (blk_cell BK422.out 1).trans rfl, (blk_cell BK422.out 2).trans rfl, (blk_cell BK422.out 3).trans rfl, hx458_0⟩ (fun hHeld => ?_); refine with_tabW sandglasslaw10_GcraRate.tab24 sandglasslaw10_GcraRate.bits24 (fun HT_ HW_ => ?_)
                                            generalize wr.drew = w73 at HO_7 HO_8 HO_426002 HO_426003 HO_446002 HO_446003 BK422 BK425 BK445 BK446 HB hx458_0 hHeld ⊢
                                            refine pureA 0 107 HT_ ?_
                                            refine pureA 1 108 HT_ ?_
                                            refine pureA 4 111 HT_ ?_
                                            refine pureA 6 113 HT_ ?_
                                            refine pureA 9 116 HT_ ?_
                                            refine pureA 11 118 HT_ ?_
                                            refine pureA 12 119 HT_ ?_
                                            refine pureA 13 120 HT_ ?_
                                            refine pureA 14 121 HT_ ?_
                                            refine takeA 2 109 HT_ HW_ hHeld ?_
                                            refine pureA 3 110 HT_ ?_
                                            refine takeA 5 112 HT_ HW_ hHeld ?_
                                            refine takeA 7 114 HT_ HW_ hHeld ?_
                                            refine pureA 8 115 HT_ ?_
                                            refine takeA 10 117 HT_ HW_ hHeld ?_
                                            refine takeA 15 122 HT_ HW_ hHeld ?_
                                            refine pureA 16 123 HT_ ?_
                                            refine pureA 17 124 HT_ ?_
                                            refine pureA 18 125 HT_ ?_
                                            refine pureA 19 126 HT_ ?_
                                            refine done_ (done_of HT_.out (by kernel_rfl)) ?_
                                            try go_wp2
                                            go_roundg k5
                                            case measure => have := HJ2.out; have := HK2.out; have := HJ20.out; have := HJ32.out; have := HK5.out; omega
                                            case rel => exact ⟨(wrap64 (x12_5 + (rd x8_32 x13_5))), (wrap64 (x13_5 - 1)), (by first | (with_reducible rfl) | rfl | (simp; done) | (simp [*]; done)), (by first | (with_reducible rfl) | rfl | (simp; done) | (simp [*]; done)), H', ⟨by have := HJ2.out; have := HK2.out; have := HJ20.out; have := HJ32.out; have := HK5.out; omega⟩, ⟨by (with_reducible repeat (first | apply Kd.R_alloc | apply Kd.R_drewN | apply Kd.R_drew)); exact HO_7.out⟩, ⟨by (with_reducible repeat (first | apply Kd.R_alloc | apply Kd.R_drewN | apply Kd.R_drew)); exact HO_8.out⟩, ⟨by (with_reducible repeat (first | apply Kd.V_alloc | apply Kd.V_drewN | apply Kd.V_drew)); exact HO_426002.out⟩, ⟨by (with_reducible repeat (first | apply Kd.V_alloc | apply Kd.V_drewN | apply Kd.V_drew)); exact HO_426003.out⟩, ⟨by (with_reducible repeat (first | apply Kd.V_alloc | apply Kd.V_drewN | apply Kd.V_drew)); exact HO_446002.out⟩, ⟨by (with_reducible repeat (first | apply Kd.V_alloc | apply Kd.V_drewN | apply Kd.V_drew)); exact HO_446003.out⟩, ⟨bo BK422⟩, ⟨bo BK425⟩, ⟨bo BK445⟩, ⟨bo BK446⟩, ⟨bl HB⟩⟩
                                        · rw [if_neg c70] at H
                                          exact absurd H (by simp)
                                      · rw [if_neg c69] at H
                                        exact absurd H (by simp)
                                    · rw [if_neg c68] at H
                                      exact absurd H (by simp)
                                  · rw [if_neg c67] at H
                                    have c67b0 : decide (0 ≤ x13_5) = false := decide_eq_false c67
                                    clear c67
                                    have H' := Aside0.mk H
                                    clear H
                                    go_wp2
                                    go_roundg k5
                                    case measure => have := HJ2.out; have := HK2.out; have := HJ20.out; have := HJ32.out; have := HK5.out; omega
                                    case rel => exact ⟨((wrap64 (x6_2 + ((rd_T45 l1 x9_2).f0)))), (y447), (x8_32), (wrap64 (x9_2 + 1)), (t433), (t434), (t435), (t438), (.slice Ao43 t435.length co43), (.slice Ao45 t438.length co45), (by first | (with_reducible rfl) | rfl | (simp; done) | (simp [*]; done)), (by first | (with_reducible rfl) | rfl | (simp; done) | (simp [*]; done)), H', ⟨by have := HJ2.out; have := HK2.out; have := HJ20.out; have := HJ32.out; have := HK5.out; omega⟩, ⟨by (with_reducible repeat (first | apply Kd.R_alloc | apply Kd.R_drewN | apply Kd.R_drew)); exact HO_7.out⟩, ⟨by (with_reducible repeat (first | apply Kd.R_alloc | apply Kd.R_drewN | apply Kd.R_drew)); exact HO_8.out⟩, ⟨by (with_reducible repeat (first | apply Kd.V_alloc | apply Kd.V_drewN | apply Kd.V_drew)); exact Kd.V_mono HO_426002.out (fun _ hk => ⟨hk.1, ⟨hk.2.1, ⟨hk.2.2.1, hk.2.2.2.1⟩⟩⟩)⟩, ⟨by (with_reducible repeat (first | apply Kd.V_alloc | apply Kd.V_drewN | apply Kd.V_drew)); exact Kd.V_mono HO_426003.out (fun _ hk => ⟨hk.1, ⟨hk.2.1, ⟨hk.2.2.1, hk.2.2.2.1⟩⟩⟩)⟩, ⟨bo BK422⟩, ⟨bo BK425⟩, ⟨bl HB⟩⟩
                        · rw [if_neg c32] at H
                          exact absurd H (by simp)
                      · rw [if_neg c30] at H
                        exact absurd H (by simp)
                    · rw [if_neg c29] at H
                      exact absurd H (by simp)
            · rw [if_neg c20] at H
              have c20b0 : decide (x9_2 < (l1.length : Int)) = false := decide_eq_false c20
              clear c20
              replace H := Option.bind_eq_some_iff.mp H
              obtain ⟨t459, A750, H⟩ := H
              have A75 := Aside0.mk A750
              clear A750
              obtain rfl := Option.some.inj H
              go_wp2_with (first | ((with_reducible refine gate_callee (f := 9) rfl ?_); refine goesL_ (some 127) rfl rfl Try.func9 (by kernel_rfl) rfl #[] rfl (by (try simp only [List.map_toArray, List.map_cons, List.map_nil]); first | done | rfl | (simp only [List.length_drop, List.length_take]; rfl)) ?_; (with_reducible refine (sandglasslaw10_live.calls k2  t459 _ A75.out).mono ?_); rintro e w76 ⟨rfl, hb⟩; refine ⟨_, rfl, ?_⟩; replace HO_7 := Aside0.mk (Kd.R_below (by (with_reducible repeat (first | apply Kd.R_alloc | apply Kd.R_drewN | apply Kd.R_drew)); exact HO_7.out) hb); replace HO_8 := Aside0.mk (Kd.R_below (by (with_reducible repeat (first | apply Kd.R_alloc | apply Kd.R_drewN | apply Kd.R_drew)); exact HO_8.out) hb); replace HO_426002 := vb HO_426002 hb; replace HO_426003 := vb HO_426003 hb; replace BK422 := Aside0.mk (blk_below (bo BK422) hb); replace BK425 := Aside0.mk (blk_below (bo BK425) hb); replace HB := Aside0.mk (below_step (bl HB) hb); (try clear hb); (try clear hb2); (try clear hk); (try clear hi)))
              go_ret
              exact ⟨by first | (with_reducible rfl) | rfl | (simp [errW_none, errW_some] <;> rfl) | (simp [*, errW_none, errW_some] <;> rfl), bl HB⟩

end Go.Proofs.Ytpeljhmbaibjcaa.Q
