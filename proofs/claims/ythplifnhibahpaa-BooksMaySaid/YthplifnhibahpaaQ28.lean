-- Laid by wip/tools/hprint.py, a program of this repo, over the kit's print; not a text of print.sh.
import Derived.Test.YthplifnhibahpaaQ0
import Derived.Test.YthplifnhibahpaaQ1
import Derived.Test.YthplifnhibahpaaQ8
import Derived.Test.YthplifnhibahpaaQ10
import Derived.Test.YthplifnhibahpaaQ15
import Derived.Test.YthplifnhibahpaaQ16
import Derived.Test.YthplifnhibahpaaQ17
import Derived.Test.YthplifnhibahpaaQ18
import Derived.Test.YthplifnhibahpaaQ22
namespace Go.Proofs.Ythplifnhibahpaa.Q
open Go.RowKit Go.Proofs.Ythplifnhibahpaa.Zip Go.Proofs.YthplifnhibahpaaW.PrintWords Go.Proofs.YthplifnhibahpaaW.PrintLast Go.Proofs.YthplifnhibahpaaW.PrintMore
attribute [local go_sem] max2_int min2_int max_two min_two max_three min_three max_four min_four   -- for this text's walks alone
set_option linter.unusedVariables false
set_option linter.unusedSimpArgs false

attribute [local go_sem high] eqA25
/-! ### sandglasslaw16_BooksMay: function 5 -/
mutual
def sandglasslaw16_BooksMay.j0 : Nat → List (S43) → Bool → Int → Int → Int → Int → Int → Int → Option (Bool)
  | 0, _, _, _, _, _, _, _, _ => none
  | k + 1, x0, x39, x290000, x290001, x291000, x291001, x291002, x291003 => if x39 = true then ((sandglasslaw16_live.f k).bind fun t292 => (some t292)) else ((books_Set.f k x0 x290000 x291000 x291001 x291002 x291003).bind fun bt293 => ((books_Delete.f k x0 x290000).bind fun bt298 => ((books_May.f k bt293.1).bind fun t302 => (if t302 = true then ((books_May.f k bt298.1).bind fun t303 => (if t303 = true then (if bt293.2.2 = 0 then (if bt298.2 = 0 then (sandglasslaw16_BooksMay.j1 k x0 bt293.1 bt293.2.1 bt293.2.2 bt298.1 bt298.2 false x290000 x290001 x291000 x291001 x291002 x291003) else ((sandglassref16_Same.f k bt298.1 x0).bind fun t304 => (sandglasslaw16_BooksMay.j1 k x0 bt293.1 bt293.2.1 bt293.2.2 bt298.1 bt298.2 (!t304) x290000 x290001 x291000 x291001 x291002 x291003))) else ((sandglassref16_Same.f k bt293.1 x0).bind fun t305 => (if t305 = true then (if bt293.2.1 = 0 then (if bt298.2 = 0 then (sandglasslaw16_BooksMay.j1 k x0 bt293.1 bt293.2.1 bt293.2.2 bt298.1 bt298.2 false x290000 x290001 x291000 x291001 x291002 x291003) else ((sandglassref16_Same.f k bt298.1 x0).bind fun t306 => (sandglasslaw16_BooksMay.j1 k x0 bt293.1 bt293.2.1 bt293.2.2 bt298.1 bt298.2 (!t306) x290000 x290001 x291000 x291001 x291002 x291003))) else (sandglasslaw16_BooksMay.j1 k x0 bt293.1 bt293.2.1 bt293.2.2 bt298.1 bt298.2 true x290000 x290001 x291000 x291001 x291002 x291003)) else (sandglasslaw16_BooksMay.j1 k x0 bt293.1 bt293.2.1 bt293.2.2 bt298.1 bt298.2 true x290000 x290001 x291000 x291001 x291002 x291003)))) else (sandglasslaw16_BooksMay.j1 k x0 bt293.1 bt293.2.1 bt293.2.2 bt298.1 bt298.2 true x290000 x290001 x291000 x291001 x291002 x291003))) else (sandglasslaw16_BooksMay.j1 k x0 bt293.1 bt293.2.1 bt293.2.2 bt298.1 bt298.2 true x290000 x290001 x291000 x291001 x291002 x291003)))))
def sandglasslaw16_BooksMay.j1 : Nat → List (S43) → List (S43) → Int → Int → List (S43) → Int → Bool → Int → Int → Int → Int → Int → Int → Option (Bool)
  | 0, _, _, _, _, _, _, _, _, _, _, _, _, _ => none
  | k + 1, x0, x7, x8, x9, x10, x11, x88, x290000, x290001, x291000, x291001, x291002, x291003 => if x88 = true then (none) else (if x9 = 0 then ((books_Get.f k x7 x290000).bind fun bt307 => (if (!(bt307.1 == x291000) || (!(bt307.2.1 == x291001) || (!(bt307.2.2.1 == x291002) || (!(bt307.2.2.2.1 == x291003))))) = true then (sandglasslaw16_BooksMay.j2 k x0 x7 x10 x11 true x290000 x290001) else (if bt307.2.2.2.2.1 = x8 then (if bt307.2.2.2.2.2 = 0 then (if 0 ≤ x290000 then (if x290000 < (x0.length : Int) then (if x8 = (wrap64 (((rd_T43 x0 x290000).f2) + 1)) then ((sandglassref09_Check.f k x291000 x291001 x291002 x291003).bind fun t315 => (sandglasslaw16_BooksMay.j2 k x0 x7 x10 x11 (t315 != 0) x290000 x290001)) else (sandglasslaw16_BooksMay.j2 k x0 x7 x10 x11 true x290000 x290001)) else (none)) else (none)) else (sandglasslaw16_BooksMay.j2 k x0 x7 x10 x11 true x290000 x290001)) else (sandglasslaw16_BooksMay.j2 k x0 x7 x10 x11 true x290000 x290001)))) else (sandglasslaw16_BooksMay.j3 k x0 x7 x10 x11 x290000 x290001))
def sandglasslaw16_BooksMay.j3 : Nat → List (S43) → List (S43) → List (S43) → Int → Int → Int → Option (Bool)
  | 0, _, _, _, _, _, _ => none
  | k + 1, x0, x7, x10, x11, x290000, x290001 => if x11 = 0 then ((books_Get.f k x10 x290000).bind fun bt316 => (if bt316.2.2.2.2.2 = 5 then (sandglasslaw16_BooksMay.j4 k x0 x7 x10 x290000 x290001) else (none))) else (sandglasslaw16_BooksMay.j4 k x0 x7 x10 x290000 x290001)
def sandglasslaw16_BooksMay.j4 : Nat → List (S43) → List (S43) → List (S43) → Int → Int → Option (Bool)
  | 0, _, _, _, _, _ => none
  | k + 1, x0, x7, x10, x290000, x290001 => if x290000 = x290001 then ((sandglasslaw16_live.f k).bind fun t323 => (some t323)) else ((books_Get.f k x0 x290001).bind fun bt324 => ((books_Get.f k x7 x290001).bind fun bt331 => ((books_Get.f k x10 x290001).bind fun bt338 => (if (bt324.1 == bt331.1 && (bt324.2.1 == bt331.2.1 && (bt324.2.2.1 == bt331.2.2.1 && (bt324.2.2.2.1 == bt331.2.2.2.1)))) = true then (if bt324.2.2.2.2.1 = bt331.2.2.2.2.1 then (if bt324.2.2.2.2.2 = bt331.2.2.2.2.2 then (if (bt324.1 == bt338.1 && (bt324.2.1 == bt338.2.1 && (bt324.2.2.1 == bt338.2.2.1 && (bt324.2.2.2.1 == bt338.2.2.2.1)))) = true then (if bt324.2.2.2.2.1 = bt338.2.2.2.2.1 then (if bt324.2.2.2.2.2 = bt338.2.2.2.2.2 then ((sandglasslaw16_live.f k).bind fun t345 => (some t345)) else (none)) else (none)) else (none)) else (none)) else (none)) else (none)))))
def sandglasslaw16_BooksMay.j2 : Nat → List (S43) → List (S43) → List (S43) → Int → Bool → Int → Int → Option (Bool)
  | 0, _, _, _, _, _, _, _ => none
  | k + 1, x0, x7, x10, x11, x126, x290000, x290001 => if x126 = true then (none) else (sandglasslaw16_BooksMay.j3 k x0 x7 x10 x11 x290000 x290001)
end
def sandglasslaw16_BooksMay.f (k : Nat) (l0 : List (S43)) (a1_0 : Int) (a1_1 : Int) (a2_0 : Int) (a2_1 : Int) (a2_2 : Int) (a2_3 : Int) : Option (Bool) := if (l0.length : Int) > 20 then (sandglasslaw16_BooksMay.j0 k l0 true a1_0 a1_1 a2_0 a2_1 a2_2 a2_3) else ((books_May.f k l0).bind fun t291 => (if t291 = true then (sandglasslaw16_BooksMay.j0 k l0 ((l0.length : Int) != 8) a1_0 a1_1 a2_0 a2_1 a2_2 a2_3) else (sandglasslaw16_BooksMay.j0 k l0 true a1_0 a1_1 a2_0 a2_1 a2_2 a2_3)))
theorem sandglasslaw16_BooksMay.mono_l : ∀ k, (∀ y0 y1 y2 y3 y4 y5 y6 y7, LeO (sandglasslaw16_BooksMay.j0 k y0 y1 y2 y3 y4 y5 y6 y7) (sandglasslaw16_BooksMay.j0 (k + 1) y0 y1 y2 y3 y4 y5 y6 y7)) ∧ (∀ y0 y1 y2 y3 y4 y5 y6 y7 y8 y9 y10 y11 y12, LeO (sandglasslaw16_BooksMay.j1 k y0 y1 y2 y3 y4 y5 y6 y7 y8 y9 y10 y11 y12) (sandglasslaw16_BooksMay.j1 (k + 1) y0 y1 y2 y3 y4 y5 y6 y7 y8 y9 y10 y11 y12)) ∧ (∀ y0 y1 y2 y3 y4 y5, LeO (sandglasslaw16_BooksMay.j3 k y0 y1 y2 y3 y4 y5) (sandglasslaw16_BooksMay.j3 (k + 1) y0 y1 y2 y3 y4 y5)) ∧ (∀ y0 y1 y2 y3 y4, LeO (sandglasslaw16_BooksMay.j4 k y0 y1 y2 y3 y4) (sandglasslaw16_BooksMay.j4 (k + 1) y0 y1 y2 y3 y4)) ∧ (∀ y0 y1 y2 y3 y4 y5 y6, LeO (sandglasslaw16_BooksMay.j2 k y0 y1 y2 y3 y4 y5 y6) (sandglasslaw16_BooksMay.j2 (k + 1) y0 y1 y2 y3 y4 y5 y6))
  | 0 => ⟨fun _ _ _ _ _ _ _ _ r h => by simp [sandglasslaw16_BooksMay.j0] at h, fun _ _ _ _ _ _ _ _ _ _ _ _ _ r h => by simp [sandglasslaw16_BooksMay.j1] at h, fun _ _ _ _ _ _ r h => by simp [sandglasslaw16_BooksMay.j3] at h, fun _ _ _ _ _ r h => by simp [sandglasslaw16_BooksMay.j4] at h, fun _ _ _ _ _ _ _ r h => by simp [sandglasslaw16_BooksMay.j2] at h⟩
  | k + 1 => by
    obtain ⟨ih0, ih1, ih2, ih3, ih4⟩ := sandglasslaw16_BooksMay.mono_l k
    refine ⟨?_, ?_, ?_, ?_, ?_⟩
    · intro y0 y1 y2 y3 y4 y5 y6 y7
      unfold sandglasslaw16_BooksMay.j0
      repeat' first
      | (with_reducible exact ih0 _ _ _ _ _ _ _ _)
      | (with_reducible exact ih1 _ _ _ _ _ _ _ _ _ _ _ _ _)
      | (with_reducible exact ih2 _ _ _ _ _ _)
      | (with_reducible exact ih3 _ _ _ _ _)
      | (with_reducible exact ih4 _ _ _ _ _ _ _)
      | (with_reducible exact books_Delete.mono _ _ _)
      | (with_reducible exact books_Get.mono _ _ _)
      | (with_reducible exact books_May.mono _ _)
      | (with_reducible exact books_Set.mono _ _ _ _ _ _ _)
      | (with_reducible exact sandglasslaw16_live.mono _)
      | (with_reducible exact sandglassref09_Check.mono _ _ _ _ _)
      | (with_reducible exact sandglassref16_Same.mono _ _ _)
      | (with_reducible exact LeO.refl _)
      | (with_reducible exact LeO.none _)
      | (with_reducible refine LeO.ite ?_ ?_)
      | (with_reducible refine LeO.bind ?_ (fun _ => ?_))
      | exact ih0 _ _ _ _ _ _ _ _
      | exact ih1 _ _ _ _ _ _ _ _ _ _ _ _ _
      | exact ih2 _ _ _ _ _ _
      | exact ih3 _ _ _ _ _
      | exact ih4 _ _ _ _ _ _ _
      | exact books_Delete.mono _ _ _
      | exact books_Get.mono _ _ _
      | exact books_May.mono _ _
      | exact books_Set.mono _ _ _ _ _ _ _
      | exact sandglasslaw16_live.mono _
      | exact sandglassref09_Check.mono _ _ _ _ _
      | exact sandglassref16_Same.mono _ _ _
      | exact LeO.none _
      | refine LeO.ite ?_ ?_
      | refine LeO.bind ?_ (fun _ => ?_)
    · intro y0 y1 y2 y3 y4 y5 y6 y7 y8 y9 y10 y11 y12
      unfold sandglasslaw16_BooksMay.j1
      repeat' first
      | (with_reducible exact ih0 _ _ _ _ _ _ _ _)
      | (with_reducible exact ih1 _ _ _ _ _ _ _ _ _ _ _ _ _)
      | (with_reducible exact ih2 _ _ _ _ _ _)
      | (with_reducible exact ih3 _ _ _ _ _)
      | (with_reducible exact ih4 _ _ _ _ _ _ _)
      | (with_reducible exact books_Delete.mono _ _ _)
      | (with_reducible exact books_Get.mono _ _ _)
      | (with_reducible exact books_May.mono _ _)
      | (with_reducible exact books_Set.mono _ _ _ _ _ _ _)
      | (with_reducible exact sandglasslaw16_live.mono _)
      | (with_reducible exact sandglassref09_Check.mono _ _ _ _ _)
      | (with_reducible exact sandglassref16_Same.mono _ _ _)
      | (with_reducible exact LeO.refl _)
      | (with_reducible exact LeO.none _)
      | (with_reducible refine LeO.ite ?_ ?_)
      | (with_reducible refine LeO.bind ?_ (fun _ => ?_))
      | exact ih0 _ _ _ _ _ _ _ _
      | exact ih1 _ _ _ _ _ _ _ _ _ _ _ _ _
      | exact ih2 _ _ _ _ _ _
      | exact ih3 _ _ _ _ _
      | exact ih4 _ _ _ _ _ _ _
      | exact books_Delete.mono _ _ _
      | exact books_Get.mono _ _ _
      | exact books_May.mono _ _
      | exact books_Set.mono _ _ _ _ _ _ _
      | exact sandglasslaw16_live.mono _
      | exact sandglassref09_Check.mono _ _ _ _ _
      | exact sandglassref16_Same.mono _ _ _
      | exact LeO.none _
      | refine LeO.ite ?_ ?_
      | refine LeO.bind ?_ (fun _ => ?_)
    · intro y0 y1 y2 y3 y4 y5
      unfold sandglasslaw16_BooksMay.j3
      repeat' first
      | (with_reducible exact ih0 _ _ _ _ _ _ _ _)
      | (with_reducible exact ih1 _ _ _ _ _ _ _ _ _ _ _ _ _)
      | (with_reducible exact ih2 _ _ _ _ _ _)
      | (with_reducible exact ih3 _ _ _ _ _)
      | (with_reducible exact ih4 _ _ _ _ _ _ _)
      | (with_reducible exact books_Delete.mono _ _ _)
      | (with_reducible exact books_Get.mono _ _ _)
      | (with_reducible exact books_May.mono _ _)
      | (with_reducible exact books_Set.mono _ _ _ _ _ _ _)
      | (with_reducible exact sandglasslaw16_live.mono _)
      | (with_reducible exact sandglassref09_Check.mono _ _ _ _ _)
      | (with_reducible exact sandglassref16_Same.mono _ _ _)
      | (with_reducible exact LeO.refl _)
      | (with_reducible exact LeO.none _)
      | (with_reducible refine LeO.ite ?_ ?_)
      | (with_reducible refine LeO.bind ?_ (fun _ => ?_))
      | exact ih0 _ _ _ _ _ _ _ _
      | exact ih1 _ _ _ _ _ _ _ _ _ _ _ _ _
      | exact ih2 _ _ _ _ _ _
      | exact ih3 _ _ _ _ _
      | exact ih4 _ _ _ _ _ _ _
      | exact books_Delete.mono _ _ _
      | exact books_Get.mono _ _ _
      | exact books_May.mono _ _
      | exact books_Set.mono _ _ _ _ _ _ _
      | exact sandglasslaw16_live.mono _
      | exact sandglassref09_Check.mono _ _ _ _ _
      | exact sandglassref16_Same.mono _ _ _
      | exact LeO.none _
      | refine LeO.ite ?_ ?_
      | refine LeO.bind ?_ (fun _ => ?_)
    · intro y0 y1 y2 y3 y4
      unfold sandglasslaw16_BooksMay.j4
      repeat' first
      | (with_reducible exact ih0 _ _ _ _ _ _ _ _)
      | (with_reducible exact ih1 _ _ _ _ _ _ _ _ _ _ _ _ _)
      | (with_reducible exact ih2 _ _ _ _ _ _)
      | (with_reducible exact ih3 _ _ _ _ _)
      | (with_reducible exact ih4 _ _ _ _ _ _ _)
      | (with_reducible exact books_Delete.mono _ _ _)
      | (with_reducible exact books_Get.mono _ _ _)
      | (with_reducible exact books_May.mono _ _)
      | (with_reducible exact books_Set.mono _ _ _ _ _ _ _)
      | (with_reducible exact sandglasslaw16_live.mono _)
      | (with_reducible exact sandglassref09_Check.mono _ _ _ _ _)
      | (with_reducible exact sandglassref16_Same.mono _ _ _)
      | (with_reducible exact LeO.refl _)
      | (with_reducible exact LeO.none _)
      | (with_reducible refine LeO.ite ?_ ?_)
      | (with_reducible refine LeO.bind ?_ (fun _ => ?_))
      | exact ih0 _ _ _ _ _ _ _ _
      | exact ih1 _ _ _ _ _ _ _ _ _ _ _ _ _
      | exact ih2 _ _ _ _ _ _
      | exact ih3 _ _ _ _ _
      | exact ih4 _ _ _ _ _ _ _
      | exact books_Delete.mono _ _ _
      | exact books_Get.mono _ _ _
      | exact books_May.mono _ _
      | exact books_Set.mono _ _ _ _ _ _ _
      | exact sandglasslaw16_live.mono _
      | exact sandglassref09_Check.mono _ _ _ _ _
      | exact sandglassref16_Same.mono _ _ _
      | exact LeO.none _
      | refine LeO.ite ?_ ?_
      | refine LeO.bind ?_ (fun _ => ?_)
    · intro y0 y1 y2 y3 y4 y5 y6
      unfold sandglasslaw16_BooksMay.j2
      repeat' first
      | (with_reducible exact ih0 _ _ _ _ _ _ _ _)
      | (with_reducible exact ih1 _ _ _ _ _ _ _ _ _ _ _ _ _)
      | (with_reducible exact ih2 _ _ _ _ _ _)
      | (with_reducible exact ih3 _ _ _ _ _)
      | (with_reducible exact ih4 _ _ _ _ _ _ _)
      | (with_reducible exact books_Delete.mono _ _ _)
      | (with_reducible exact books_Get.mono _ _ _)
      | (with_reducible exact books_May.mono _ _)
      | (with_reducible exact books_Set.mono _ _ _ _ _ _ _)
      | (with_reducible exact sandglasslaw16_live.mono _)
      | (with_reducible exact sandglassref09_Check.mono _ _ _ _ _)
      | (with_reducible exact sandglassref16_Same.mono _ _ _)
      | (with_reducible exact LeO.refl _)
      | (with_reducible exact LeO.none _)
      | (with_reducible refine LeO.ite ?_ ?_)
      | (with_reducible refine LeO.bind ?_ (fun _ => ?_))
      | exact ih0 _ _ _ _ _ _ _ _
      | exact ih1 _ _ _ _ _ _ _ _ _ _ _ _ _
      | exact ih2 _ _ _ _ _ _
      | exact ih3 _ _ _ _ _
      | exact ih4 _ _ _ _ _ _ _
      | exact books_Delete.mono _ _ _
      | exact books_Get.mono _ _ _
      | exact books_May.mono _ _
      | exact books_Set.mono _ _ _ _ _ _ _
      | exact sandglasslaw16_live.mono _
      | exact sandglassref09_Check.mono _ _ _ _ _
      | exact sandglassref16_Same.mono _ _ _
      | exact LeO.none _
      | refine LeO.ite ?_ ?_
      | refine LeO.bind ?_ (fun _ => ?_)
theorem sandglasslaw16_BooksMay.mono : ∀ a0 a1 a2 a3 a4 a5 a6 k, LeO (sandglasslaw16_BooksMay.f k a0 a1 a2 a3 a4 a5 a6) (sandglasslaw16_BooksMay.f (k + 1) a0 a1 a2 a3 a4 a5 a6) := by
  intro a0 a1 a2 a3 a4 a5 a6 k
  obtain ⟨ih0, ih1, ih2, ih3, ih4⟩ := sandglasslaw16_BooksMay.mono_l k
  unfold sandglasslaw16_BooksMay.f
  repeat' first
      | (with_reducible exact ih0 _ _ _ _ _ _ _ _)
      | (with_reducible exact ih1 _ _ _ _ _ _ _ _ _ _ _ _ _)
      | (with_reducible exact ih2 _ _ _ _ _ _)
      | (with_reducible exact ih3 _ _ _ _ _)
      | (with_reducible exact ih4 _ _ _ _ _ _ _)
      | (with_reducible exact books_Delete.mono _ _ _)
      | (with_reducible exact books_Get.mono _ _ _)
      | (with_reducible exact books_May.mono _ _)
      | (with_reducible exact books_Set.mono _ _ _ _ _ _ _)
      | (with_reducible exact sandglasslaw16_live.mono _)
      | (with_reducible exact sandglassref09_Check.mono _ _ _ _ _)
      | (with_reducible exact sandglassref16_Same.mono _ _ _)
      | (with_reducible exact LeO.refl _)
      | (with_reducible exact LeO.none _)
      | (with_reducible refine LeO.ite ?_ ?_)
      | (with_reducible refine LeO.bind ?_ (fun _ => ?_))
      | exact ih0 _ _ _ _ _ _ _ _
      | exact ih1 _ _ _ _ _ _ _ _ _ _ _ _ _
      | exact ih2 _ _ _ _ _ _
      | exact ih3 _ _ _ _ _
      | exact ih4 _ _ _ _ _ _ _
      | exact books_Delete.mono _ _ _
      | exact books_Get.mono _ _ _
      | exact books_May.mono _ _
      | exact books_Set.mono _ _ _ _ _ _ _
      | exact sandglasslaw16_live.mono _
      | exact sandglassref09_Check.mono _ _ _ _ _
      | exact sandglassref16_Same.mono _ _ _
      | exact LeO.none _
      | refine LeO.ite ?_ ?_
      | refine LeO.bind ?_ (fun _ => ?_)
set_option maxHeartbeats 8000000 in
set_option maxRecDepth 100000 in
theorem sandglasslaw16_BooksMay.calls (k : Nat) (A0 : Option Addr) (c0 : Nat) (l0 : List (S43)) (a1_0 : Int) (a1_1 : Int) (a2_0 : Int) (a2_1 : Int) (a2_2 : Int) (a2_3 : Int) (r : Bool) (w : World) (hr0 : Kd.C k43 w A0 l0.length l0) (hc0 : l0.length ≤ c0) (h : sandglasslaw16_BooksMay.f k l0 a1_0 a1_1 a2_0 a2_1 a2_2 a2_3 = some r) :
    Calls Try.prog 5 #[.slice A0 l0.length c0, .agg #[.int .i64 a1_0, .int .i64 a1_1], .agg #[.int .i64 a2_0, .int .i64 a2_1, .int .i64 a2_2, .int .i64 a2_3]] w fun e w' => e = .returned (.bool r) ∧ Below w.heap.size w w' := by
  have hu41 := Try.underlying41
  have hu25 := Try.underlying25
  have HR0 := Aside0.mk hr0
  have HC0 := Aside0.mk hc0
  clear hr0 hc0
  have HB := Aside0.mk (Below.refl w.heap.size w)
  have H : (if (l0.length : Int) > 20 then (sandglasslaw16_BooksMay.j0 k l0 true a1_0 a1_1 a2_0 a2_1 a2_2 a2_3) else ((books_May.f k l0).bind fun t291 => (if t291 = true then (sandglasslaw16_BooksMay.j0 k l0 ((l0.length : Int) != 8) a1_0 a1_1 a2_0 a2_1 a2_2 a2_3) else (sandglasslaw16_BooksMay.j0 k l0 true a1_0 a1_1 a2_0 a2_1 a2_2 a2_3)))) = some r := h
  clear h
  have HC4 := Aside0.mk H
  clear H
  go_enter Try.func5, Try.ntmps5
  go_upto_region 1 with (first | ((with_reducible refine gate_dst (N := 4) rfl ?_); (try (refine gate_guard (by rfl) ?_; dsimp only)); refine box_event ?hg (N := 4) ?hd (cs := #[.int .i64 a1_0, .int .i64 a1_1]) (t := 41) ?hr ?_; (case hd => rfl); (case hg => rfl); (case hr => first | (go_simp; done) | (go_simp; rfl)); intro gb289 hg w5 hbox hb; have BK289 := Aside0.mk (hbox); have GW289 := Aside0.mk ((by rw [hg]; exact (below_size (bl HB)) : w.heap.size ≤ gb289)); have GE289 := Aside0.mk ((by rw [hg]; exact (below_size (bl HB)) : w.heap.size ≤ gb289)); replace HB := Aside0.mk (below_step (bl HB) hb); clear hb hbox hg) | ((with_reducible refine gate_dst (N := 5) rfl ?_); (try (refine gate_guard (by rfl) ?_; dsimp only)); refine box_event ?hg (N := 5) ?hd (cs := #[.int .i64 a2_0, .int .i64 a2_1, .int .i64 a2_2, .int .i64 a2_3]) (t := 25) ?hr ?_; (case hd => rfl); (case hg => rfl); (case hr => first | (go_simp; done) | (go_simp; rfl)); intro gb290 hg w6 hbox hb; have BK290 := Aside0.mk (hbox); have GW290 := Aside0.mk ((by rw [hg]; exact (below_size (bl HB)) : w.heap.size ≤ gb290)); have GE290 := Aside0.mk ((by rw [hg]; exact (below_size (bl HB)) : w.heap.size ≤ gb290)); have NB289_290 := nb BK289 hg; have NB290_289 := bn BK289 hg; replace BK289 := Aside0.mk (blk_below (bo BK289) hb); replace HB := Aside0.mk (below_step (bl HB) hb); clear hb hbox hg))
  (try simp only [Act.put, List.setIfInBounds_toArray, List.set_cons_zero, List.set_cons_succ])
  go_cut [39] (fun v39 wc => ∃ (kq : Nat) (x39_3 : Bool), v39 = .bool x39_3 ∧ Aside0 (sandglasslaw16_BooksMay.j0 kq l0 x39_3 a1_0 a1_1 a2_0 a2_1 a2_2 a2_3 = some r) ∧ Aside0 (kq ≤ k) ∧ Aside0 (wc.heap[gb289]? = some (.cells #[.int .i64 a1_0, .int .i64 a1_1] 41 (0, 0))) ∧ Aside0 (wc.heap[gb290]? = some (.cells #[.int .i64 a2_0, .int .i64 a2_1, .int .i64 a2_2, .int .i64 a2_3] 25 (0, 0))) ∧ Aside0 (Below w.heap.size w wc))
  case first =>
    as_aux_lemma =>
    have H := HC4.out
    clear HC4
    by_cases c7 : (l0.length : Int) > 20
    · rw [if_pos c7] at H
      have c7b0 : decide (20 < (l0.length : Int)) = true := decide_eq_true c7
      have c7b1 : decide (20 < l0.length) = true := decide_eq_true (by omega)
      clear c7
      (first | rw [c7b0] | (simp only [i64_w, i32_w]; rw [c7b0]) | skip)
      have H' := Aside0.mk H
      clear H
      go_wp2
      go_meet
      case rel => exact ⟨_, (true), (by first | (with_reducible rfl) | rfl | (simp; done) | (simp [*]; done)), H', ⟨by first | omega | exact Nat.le_refl _⟩, ⟨bo BK289⟩, ⟨bo BK290⟩, ⟨bl HB⟩⟩
    · rw [if_neg c7] at H
      have c7b0 : decide (20 < (l0.length : Int)) = false := decide_eq_false c7
      have c7b1 : decide (20 < l0.length) = false := decide_eq_false (by omega)
      clear c7
      (first | rw [c7b0] | (simp only [i64_w, i32_w]; rw [c7b0]) | skip)
      replace H := Option.bind_eq_some_iff.mp H
      obtain ⟨t291, A80, H⟩ := H
      have A8 := Aside0.mk A80
      clear A80
      by_cases c9 : t291 = true
      · subst c9
        rw [if_pos rfl] at H
        have H' := Aside0.mk H
        clear H
        go_wp2_with (first | (go_at_call 11; (with_reducible refine (books_May.calls k _ _ l0 true _ ?side1 ?side2 A8.out).mono ?_); (case side1 => repeat (first | exact (Kd.C_below HR0.out HB.out) | (with_reducible refine Kd.C_alloc ?_ _) | (with_reducible refine Kd.C_drewN ?_ _) | (with_reducible refine Kd.C_drew ?_))); (case side2 => exact HC0.out); rintro e w10 ⟨rfl, hb⟩; replace BK289 := Aside0.mk (blk_below (bo BK289) hb); replace BK290 := Aside0.mk (blk_below (bo BK290) hb); replace HB := Aside0.mk (below_step (bl HB) hb); (try clear hb); (try clear hb2); (try clear hk); (try clear hi)))
        go_meet
        case rel => exact ⟨_, (((l0.length : Int) != 8)), (by first | (with_reducible rfl) | rfl | (simp; done) | (simp [*]; done)), H', ⟨by first | omega | exact Nat.le_refl _⟩, ⟨bo BK289⟩, ⟨bo BK290⟩, ⟨bl HB⟩⟩
      · replace c9 := Bool.eq_false_iff.mpr c9
        subst c9
        rw [if_neg (show ¬ (false = true) by decide)] at H
        have H' := Aside0.mk H
        clear H
        go_wp2_with (first | (go_at_call 11; (with_reducible refine (books_May.calls k _ _ l0 false _ ?side1 ?side2 A8.out).mono ?_); (case side1 => repeat (first | exact (Kd.C_below HR0.out HB.out) | (with_reducible refine Kd.C_alloc ?_ _) | (with_reducible refine Kd.C_drewN ?_ _) | (with_reducible refine Kd.C_drew ?_))); (case side2 => exact HC0.out); rintro e w11 ⟨rfl, hb⟩; replace BK289 := Aside0.mk (blk_below (bo BK289) hb); replace BK290 := Aside0.mk (blk_below (bo BK290) hb); replace HB := Aside0.mk (below_step (bl HB) hb); (try clear hb); (try clear hb2); (try clear hk); (try clear hi)))
        go_meet
        case rel => exact ⟨_, (true), (by first | (with_reducible rfl) | rfl | (simp; done) | (simp [*]; done)), H', ⟨by first | omega | exact Nat.le_refl _⟩, ⟨bo BK289⟩, ⟨bo BK290⟩, ⟨bl HB⟩⟩
  case rest =>
    as_aux_lemma =>
    clear HC4
    try clear p2
    try clear c5
    try clear c7
    try clear c7b0
    try clear c7b1
    try clear c9
    obtain ⟨kq, x39_3, rfl, HA, HJ3, BK289, BK290, HB⟩ := hcut
    cases kq with
    | zero => exact absurd HA.out (by simp [sandglasslaw16_BooksMay.j0])
    | succ kj3 =>
      have H := HA.out
      clear HA
      simp only [sandglasslaw16_BooksMay.j0] at H
      by_cases c12 : x39_3 = true
      · subst c12
        rw [if_pos rfl] at H
        replace H := Option.bind_eq_some_iff.mp H
        obtain ⟨t292, A130, H⟩ := H
        have A13 := Aside0.mk A130
        clear A130
        obtain rfl := Option.some.inj H
        go_wp2_with (first | ((with_reducible refine gate_callee (f := 8) rfl ?_); refine goesL_ (some 40) rfl rfl Try.func8 (by kernel_rfl) rfl #[] rfl (by (try simp only [List.map_toArray, List.map_cons, List.map_nil]); first | done | rfl | (simp only [List.length_drop, List.length_take]; rfl)) ?_; (with_reducible refine (sandglasslaw16_live.calls kj3  t292 _ A13.out).mono ?_); rintro e w14 ⟨rfl, hb⟩; refine ⟨_, rfl, ?_⟩; replace BK289 := Aside0.mk (blk_below (bo BK289) hb); replace BK290 := Aside0.mk (blk_below (bo BK290) hb); replace HB := Aside0.mk (below_step (bl HB) hb); (try clear hb); (try clear hb2); (try clear hk); (try clear hi)))
        go_ret
        exact ⟨by first | (with_reducible rfl) | rfl | (simp [errW_none, errW_some] <;> rfl) | (simp [*, errW_none, errW_some] <;> rfl), bl HB⟩
      · replace c12 := Bool.eq_false_iff.mpr c12
        subst c12
        rw [if_neg (show ¬ (false = true) by decide)] at H
        replace H := Option.bind_eq_some_iff.mp H
        obtain ⟨⟨t293, t296, t297⟩, A150, H⟩ := H
        have A15 := Aside0.mk A150
        clear A150
        replace H := Option.bind_eq_some_iff.mp H
        obtain ⟨⟨t298, t301⟩, A160, H⟩ := H
        have A16 := Aside0.mk A160
        clear A160
        have HC17 := Aside0.mk H
        clear H
        have hnb18 := NB289_290.out
        have hnc18 := NB290_289.out
        obtain ⟨hcz19_0, hcz19_1⟩ := ce2 BK289
        obtain ⟨hfz19_0, hfz19_1⟩ := fr2 BK289
        obtain ⟨hcz20_0, hcz20_1, hcz20_2, hcz20_3⟩ := ce4 BK290
        obtain ⟨hfz20_0, hfz20_1, hfz20_2, hfz20_3⟩ := fr4 BK290
        go_upto_region 5 with (first | ((with_reducible refine gate_callee (f := 19) rfl ?_); refine goesL_ (some 46) rfl rfl Try.func19 (by kernel_rfl) rfl #[.slice A0 l0.length c0, .int .i64 a1_0, .agg #[.int .i64 a2_0, .int .i64 a2_1, .int .i64 a2_2, .int .i64 a2_3]] rfl (by (try simp only [List.map_toArray, List.map_cons, List.map_nil]); first | done | rfl | (simp only [List.length_drop, List.length_take]; rfl)) ?_; (with_reducible refine (books_Set.calls kj3 (fun k_ => k_ < w.heap.size) _ _ l0 a1_0 a2_0 a2_1 a2_2 a2_3 t293 t296 t297 _ ?side1 A15.out).mono ?_); (case side1 => exact Kd.V_mk HC0.out (Kd.F_below (Kd.C_F k43_heap HR0.out) (bl HB))); rintro e w21 ⟨v294, rfl, ho0, hb⟩; refine ⟨_, rfl, ?_⟩; have HO295 := Aside0.mk (Kd.V_lower (Kd.V_mono (ok' := fun k_ => k_ ≠ gb289 ∧ k_ ≠ gb290) ho0 (fun k_ hk_ => ⟨Or.elim hk_ (fun hs_ => fun e_ => Nat.not_le.2 hs_ (by rw [e_]; exact GW289.out)) (fun hn_ => (Kd.freshB (bo BK289) k_ hn_)), Or.elim hk_ (fun hs_ => fun e_ => Nat.not_le.2 hs_ (by rw [e_]; exact GW290.out)) (fun hn_ => (Kd.freshB (bo BK290) k_ hn_))⟩)) (below_size (bl HB))); replace BK289 := Aside0.mk (blk_below (bo BK289) hb); replace BK290 := Aside0.mk (blk_below (bo BK290) hb); replace HB := Aside0.mk (below_step (bl HB) hb); (try clear hb); (try clear hb2); (try clear hk); (try clear hi); (try clear ho0); obtain ⟨hcz22_0, hcz22_1⟩ := ce2 BK289; obtain ⟨hfz22_0, hfz22_1⟩ := fr2 BK289) | ((with_reducible refine gate_callee (f := 21) rfl ?_); refine goesL_ (some 54) rfl rfl Try.func21 (by kernel_rfl) rfl #[.slice A0 l0.length c0, .int .i64 a1_0] rfl (by (try simp only [List.map_toArray, List.map_cons, List.map_nil]); first | done | rfl | (simp only [List.length_drop, List.length_take]; rfl)) ?_; (with_reducible refine (books_Delete.calls kj3 (fun k_ => k_ < w.heap.size) _ _ l0 a1_0 t298 t301 _ ?side1 A16.out).mono ?_); (case side1 => exact Kd.V_mk HC0.out (Kd.F_below (Kd.C_F k43_heap HR0.out) (bl HB))); rintro e w23 ⟨v299, rfl, ho0, hb⟩; refine ⟨_, rfl, ?_⟩; have HO300 := Aside0.mk (Kd.V_lower (Kd.V_mono (ok' := fun k_ => k_ ≠ gb289 ∧ k_ ≠ gb290) ho0 (fun k_ hk_ => ⟨Or.elim hk_ (fun hs_ => fun e_ => Nat.not_le.2 hs_ (by rw [e_]; exact GW289.out)) (fun hn_ => (Kd.freshB (bo BK289) k_ hn_)), Or.elim hk_ (fun hs_ => fun e_ => Nat.not_le.2 hs_ (by rw [e_]; exact GW290.out)) (fun hn_ => (Kd.freshB (bo BK290) k_ hn_))⟩)) (below_size (bl HB))); replace HO295 := vb HO295 hb; replace BK289 := Aside0.mk (blk_below (bo BK289) hb); replace BK290 := Aside0.mk (blk_below (bo BK290) hb); replace HB := Aside0.mk (below_step (bl HB) hb); (try clear hb); (try clear hb2); (try clear hk); (try clear hi); (try clear ho0)))
        (try simp only [Act.put, List.setIfInBounds_toArray, List.set_cons_zero, List.set_cons_succ])
        go_cut [88] (fun v88 wc => ∃ (kq : Nat) (x88_16 : Bool), v88 = .bool x88_16 ∧ Aside0 (sandglasslaw16_BooksMay.j1 kq l0 t293 t296 t297 t298 t301 x88_16 a1_0 a1_1 a2_0 a2_1 a2_2 a2_3 = some r) ∧ Aside0 (kq ≤ kj3) ∧ Aside0 (Kd.V k43 43 wc w.heap.size (fun k_ => k_ ≠ gb289 ∧ k_ ≠ gb290) v294 t293) ∧ Aside0 (Kd.V k43 43 wc w.heap.size (fun k_ => k_ ≠ gb289 ∧ k_ ≠ gb290) v299 t298) ∧ Aside0 (wc.heap[gb289]? = some (.cells #[.int .i64 a1_0, .int .i64 a1_1] 41 (0, 0))) ∧ Aside0 (wc.heap[gb290]? = some (.cells #[.int .i64 a2_0, .int .i64 a2_1, .int .i64 a2_2, .int .i64 a2_3] 25 (0, 0))) ∧ Aside0 (Below w.heap.size w wc))
        case first =>
          as_aux_lemma =>
          have H := HC17.out
          clear HC17
          replace H := Option.bind_eq_some_iff.mp H
          obtain ⟨t302, A240, H⟩ := H
          have A24 := Aside0.mk A240
          clear A240
          by_cases c25 : t302 = true
          · subst c25
            rw [if_pos rfl] at H
            replace H := Option.bind_eq_some_iff.mp H
            obtain ⟨t303, A260, H⟩ := H
            have A26 := Aside0.mk A260
            clear A260
            by_cases c27 : t303 = true
            · subst c27
              rw [if_pos rfl] at H
              by_cases c28 : t297 = 0
              · rw [if_pos c28] at H
                have c28b0 : (t297 == 0) = true := beq_iff_eq.mpr c28
                have c28b1 : (t297 != 0) = false := bne_eq_false_iff_eq.mpr c28
                clear c28
                (first | rw [c28b0] | (simp only [i64_w, i32_w]; rw [c28b0]) | skip)
                by_cases c29 : t301 = 0
                · rw [if_pos c29] at H
                  have c29b0 : (t301 == 0) = true := beq_iff_eq.mpr c29
                  have c29b1 : (t301 != 0) = false := bne_eq_false_iff_eq.mpr c29
                  clear c29
                  have H' := Aside0.mk H
                  clear H
                  obtain ⟨Ao30, co30, eo30⟩ := Kd.V_slice HO295.out
                  subst eo30
                  go_wp2_with (first | ((with_reducible refine gate_callee (f := 11) rfl ?_); refine goesL_ (some 58) rfl rfl Try.func11 (by kernel_rfl) rfl #[.slice Ao30 t293.length co30] rfl (by (try simp only [List.map_toArray, List.map_cons, List.map_nil]); first | done | rfl | (simp only [List.length_drop, List.length_take]; rfl)) ?_; (with_reducible refine (books_May.calls kj3 _ _ t293 true _ ?side1 ?side2 A24.out).mono ?_); (case side1 => repeat (first | exact (Kd.V_reads' HO295.out).2.2 | (with_reducible refine Kd.C_alloc ?_ _) | (with_reducible refine Kd.C_drewN ?_ _) | (with_reducible refine Kd.C_drew ?_))); (case side2 => exact (Kd.V_reads' HO295.out).2.1); rintro e w31 ⟨rfl, hb⟩; refine ⟨_, rfl, ?_⟩; replace HO295 := vb HO295 hb; replace HO300 := vb HO300 hb; replace BK289 := Aside0.mk (blk_below (bo BK289) hb); replace BK290 := Aside0.mk (blk_below (bo BK290) hb); replace HB := Aside0.mk (below_step (bl HB) hb); (try clear hb); (try clear hb2); (try clear hk); (try clear hi); obtain ⟨Ao32, co32, eo32⟩ := Kd.V_slice HO300.out; subst eo32) | (go_at_call 11; (with_reducible refine (books_May.calls kj3 _ _ t298 true _ ?side1 ?side2 A26.out).mono ?_); (case side1 => repeat (first | exact (Kd.V_reads' HO300.out).2.2 | (with_reducible refine Kd.C_alloc ?_ _) | (with_reducible refine Kd.C_drewN ?_ _) | (with_reducible refine Kd.C_drew ?_))); (case side2 => exact (Kd.V_reads' HO300.out).2.1); rintro e w33 ⟨rfl, hb⟩; replace HO295 := vb HO295 hb; replace HO300 := vb HO300 hb; replace BK289 := Aside0.mk (blk_below (bo BK289) hb); replace BK290 := Aside0.mk (blk_below (bo BK290) hb); replace HB := Aside0.mk (below_step (bl HB) hb); (try clear hb); (try clear hb2); (try clear hk); (try clear hi)))
                  go_meet
                  case rel => exact ⟨_, (false), (by first | (with_reducible rfl) | rfl | (simp; done) | (simp [*]; done)), H', ⟨by have := HJ3.out; first | omega | exact Nat.le_refl _⟩, ⟨by (with_reducible repeat (first | apply Kd.V_alloc | apply Kd.V_drewN | apply Kd.V_drew)); exact HO295.out⟩, ⟨by (with_reducible repeat (first | apply Kd.V_alloc | apply Kd.V_drewN | apply Kd.V_drew)); exact HO300.out⟩, ⟨bo BK289⟩, ⟨bo BK290⟩, ⟨bl HB⟩⟩
                · rw [if_neg c29] at H
                  have c29b0 : (t301 == 0) = false := beq_eq_false_iff_ne.mpr c29
                  have c29b1 : (t301 != 0) = true := bne_iff_ne.mpr c29
                  replace H := Option.bind_eq_some_iff.mp H
                  obtain ⟨t304, A340, H⟩ := H
                  have A34 := Aside0.mk A340
                  clear A340
                  have H' := Aside0.mk H
                  clear H
                  obtain ⟨Ao35, co35, eo35⟩ := Kd.V_slice HO295.out
                  subst eo35
                  go_wp2_with (first | ((with_reducible refine gate_callee (f := 11) rfl ?_); refine goesL_ (some 58) rfl rfl Try.func11 (by kernel_rfl) rfl #[.slice Ao35 t293.length co35] rfl (by (try simp only [List.map_toArray, List.map_cons, List.map_nil]); first | done | rfl | (simp only [List.length_drop, List.length_take]; rfl)) ?_; (with_reducible refine (books_May.calls kj3 _ _ t293 true _ ?side1 ?side2 A24.out).mono ?_); (case side1 => repeat (first | exact (Kd.V_reads' HO295.out).2.2 | (with_reducible refine Kd.C_alloc ?_ _) | (with_reducible refine Kd.C_drewN ?_ _) | (with_reducible refine Kd.C_drew ?_))); (case side2 => exact (Kd.V_reads' HO295.out).2.1); rintro e w36 ⟨rfl, hb⟩; refine ⟨_, rfl, ?_⟩; replace HO295 := vb HO295 hb; replace HO300 := vb HO300 hb; replace BK289 := Aside0.mk (blk_below (bo BK289) hb); replace BK290 := Aside0.mk (blk_below (bo BK290) hb); replace HB := Aside0.mk (below_step (bl HB) hb); (try clear hb); (try clear hb2); (try clear hk); (try clear hi); obtain ⟨Ao37, co37, eo37⟩ := Kd.V_slice HO300.out; subst eo37) | (go_at_call 11; (with_reducible refine (books_May.calls kj3 _ _ t298 true _ ?side1 ?side2 A26.out).mono ?_); (case side1 => repeat (first | exact (Kd.V_reads' HO300.out).2.2 | (with_reducible refine Kd.C_alloc ?_ _) | (with_reducible refine Kd.C_drewN ?_ _) | (with_reducible refine Kd.C_drew ?_))); (case side2 => exact (Kd.V_reads' HO300.out).2.1); rintro e w38 ⟨rfl, hb⟩; replace HO295 := vb HO295 hb; replace HO300 := vb HO300 hb; replace BK289 := Aside0.mk (blk_below (bo BK289) hb); replace BK290 := Aside0.mk (blk_below (bo BK290) hb); replace HB := Aside0.mk (below_step (bl HB) hb); (try clear hb); (try clear hb2); (try clear hk); (try clear hi)) | (go_at_call 16; (with_reducible refine (sandglassref16_Same.calls kj3 _ _ t298 _ _ l0 t304 _ ?side1 ?side2 ?side3 ?side4 A34.out).mono ?_); (case side1 => repeat (first | exact (Kd.V_reads' HO300.out).2.2 | (with_reducible refine Kd.C_alloc ?_ _) | (with_reducible refine Kd.C_drewN ?_ _) | (with_reducible refine Kd.C_drew ?_))); (case side2 => exact (Kd.V_reads' HO300.out).2.1); (case side3 => repeat (first | exact (Kd.C_below HR0.out HB.out) | (with_reducible refine Kd.C_alloc ?_ _) | (with_reducible refine Kd.C_drewN ?_ _) | (with_reducible refine Kd.C_drew ?_))); (case side4 => exact HC0.out); rintro e w' ⟨rfl, ⟨nd, rfl⟩⟩))
                  go_meet
                  case rel => exact ⟨_, (!t304), (by first | (with_reducible rfl) | rfl | (simp; done) | (simp [*]; done)), H', ⟨by have := HJ3.out; first | omega | exact Nat.le_refl _⟩, ⟨by (with_reducible repeat (first | apply Kd.V_alloc | apply Kd.V_drewN | apply Kd.V_drew)); exact HO295.out⟩, ⟨by (with_reducible repeat (first | apply Kd.V_alloc | apply Kd.V_drewN | apply Kd.V_drew)); exact HO300.out⟩, ⟨bo BK289⟩, ⟨bo BK290⟩, ⟨bl HB⟩⟩
              · rw [if_neg c28] at H
                have c28b0 : (t297 == 0) = false := beq_eq_false_iff_ne.mpr c28
                have c28b1 : (t297 != 0) = true := bne_iff_ne.mpr c28
                (first | rw [c28b0] | (simp only [i64_w, i32_w]; rw [c28b0]) | skip)
                replace H := Option.bind_eq_some_iff.mp H
                obtain ⟨t305, A390, H⟩ := H
                have A39 := Aside0.mk A390
                clear A390
                by_cases c40 : t305 = true
                · subst c40
                  rw [if_pos rfl] at H
                  by_cases c41 : t296 = 0
                  · rw [if_pos c41] at H
                    have c41b0 : (t296 == 0) = true := beq_iff_eq.mpr c41
                    have c41b1 : (t296 != 0) = false := bne_eq_false_iff_eq.mpr c41
                    clear c41
                    by_cases c42 : t301 = 0
                    · rw [if_pos c42] at H
                      have c42b0 : (t301 == 0) = true := beq_iff_eq.mpr c42
                      have c42b1 : (t301 != 0) = false := bne_eq_false_iff_eq.mpr c42
                      clear c42
                      have H' := Aside0.mk H
                      clear H
                      obtain ⟨Ao43, co43, eo43⟩ := Kd.V_slice HO295.out
                      subst eo43
                      go_wp2_with (first | ((with_reducible refine gate_callee (f := 11) rfl ?_); refine goesL_ (some 58) rfl rfl Try.func11 (by kernel_rfl) rfl #[.slice Ao43 t293.length co43] rfl (by (try simp only [List.map_toArray, List.map_cons, List.map_nil]); first | done | rfl | (simp only [List.length_drop, List.length_take]; rfl)) ?_; (with_reducible refine (books_May.calls kj3 _ _ t293 true _ ?side1 ?side2 A24.out).mono ?_); (case side1 => repeat (first | exact (Kd.V_reads' HO295.out).2.2 | (with_reducible refine Kd.C_alloc ?_ _) | (with_reducible refine Kd.C_drewN ?_ _) | (with_reducible refine Kd.C_drew ?_))); (case side2 => exact (Kd.V_reads' HO295.out).2.1); rintro e w44 ⟨rfl, hb⟩; refine ⟨_, rfl, ?_⟩; replace HO295 := vb HO295 hb; replace HO300 := vb HO300 hb; replace BK289 := Aside0.mk (blk_below (bo BK289) hb); replace BK290 := Aside0.mk (blk_below (bo BK290) hb); replace HB := Aside0.mk (below_step (bl HB) hb); (try clear hb); (try clear hb2); (try clear hk); (try clear hi); obtain ⟨Ao45, co45, eo45⟩ := Kd.V_slice HO300.out; subst eo45) | (go_at_call 11; (with_reducible refine (books_May.calls kj3 _ _ t298 true _ ?side1 ?side2 A26.out).mono ?_); (case side1 => repeat (first | exact (Kd.V_reads' HO300.out).2.2 | (with_reducible refine Kd.C_alloc ?_ _) | (with_reducible refine Kd.C_drewN ?_ _) | (with_reducible refine Kd.C_drew ?_))); (case side2 => exact (Kd.V_reads' HO300.out).2.1); rintro e w46 ⟨rfl, hb⟩; replace HO295 := vb HO295 hb; replace HO300 := vb HO300 hb; replace BK289 := Aside0.mk (blk_below (bo BK289) hb); replace BK290 := Aside0.mk (blk_below (bo BK290) hb); replace HB := Aside0.mk (below_step (bl HB) hb); (try clear hb); (try clear hb2); (try clear hk); (try clear hi)) | (go_at_call 16; (with_reducible refine (sandglassref16_Same.calls kj3 _ _ t293 _ _ l0 true _ ?side1 ?side2 ?side3 ?side4 A39.out).mono ?_); (case side1 => repeat (first | exact (Kd.V_reads' HO295.out).2.2 | (with_reducible refine Kd.C_alloc ?_ _) | (with_reducible refine Kd.C_drewN ?_ _) | (with_reducible refine Kd.C_drew ?_))); (case side2 => exact (Kd.V_reads' HO295.out).2.1); (case side3 => repeat (first | exact (Kd.C_below HR0.out HB.out) | (with_reducible refine Kd.C_alloc ?_ _) | (with_reducible refine Kd.C_drewN ?_ _) | (with_reducible refine Kd.C_drew ?_))); (case side4 => exact HC0.out); rintro e w' ⟨rfl, ⟨nd, rfl⟩⟩))
                      go_meet
                      case rel => exact ⟨_, (false), (by first | (with_reducible rfl) | rfl | (simp; done) | (simp [*]; done)), H', ⟨by have := HJ3.out; first | omega | exact Nat.le_refl _⟩, ⟨by (with_reducible repeat (first | apply Kd.V_alloc | apply Kd.V_drewN | apply Kd.V_drew)); exact HO295.out⟩, ⟨by (with_reducible repeat (first | apply Kd.V_alloc | apply Kd.V_drewN | apply Kd.V_drew)); exact HO300.out⟩, ⟨bo BK289⟩, ⟨bo BK290⟩, ⟨bl HB⟩⟩
                    · rw [if_neg c42] at H
                      have c42b0 : (t301 == 0) = false := beq_eq_false_iff_ne.mpr c42
                      have c42b1 : (t301 != 0) = true := bne_iff_ne.mpr c42
                      replace H := Option.bind_eq_some_iff.mp H
                      obtain ⟨t306, A470, H⟩ := H
                      have A47 := Aside0.mk A470
                      clear A470
                      have H' := Aside0.mk H
                      clear H
                      obtain ⟨Ao48, co48, eo48⟩ := Kd.V_slice HO295.out
                      subst eo48
                      go_wp2_with (first | ((with_reducible refine gate_callee (f := 11) rfl ?_); refine goesL_ (some 58) rfl rfl Try.func11 (by kernel_rfl) rfl #[.slice Ao48 t293.length co48] rfl (by (try simp only [List.map_toArray, List.map_cons, List.map_nil]); first | done | rfl | (simp only [List.length_drop, List.length_take]; rfl)) ?_; (with_reducible refine (books_May.calls kj3 _ _ t293 true _ ?side1 ?side2 A24.out).mono ?_); (case side1 => repeat (first | exact (Kd.V_reads' HO295.out).2.2 | (with_reducible refine Kd.C_alloc ?_ _) | (with_reducible refine Kd.C_drewN ?_ _) | (with_reducible refine Kd.C_drew ?_))); (case side2 => exact (Kd.V_reads' HO295.out).2.1); rintro e w49 ⟨rfl, hb⟩; refine ⟨_, rfl, ?_⟩; replace HO295 := vb HO295 hb; replace HO300 := vb HO300 hb; replace BK289 := Aside0.mk (blk_below (bo BK289) hb); replace BK290 := Aside0.mk (blk_below (bo BK290) hb); replace HB := Aside0.mk (below_step (bl HB) hb); (try clear hb); (try clear hb2); (try clear hk); (try clear hi); obtain ⟨Ao50, co50, eo50⟩ := Kd.V_slice HO300.out; subst eo50) | (go_at_call 11; (with_reducible refine (books_May.calls kj3 _ _ t298 true _ ?side1 ?side2 A26.out).mono ?_); (case side1 => repeat (first | exact (Kd.V_reads' HO300.out).2.2 | (with_reducible refine Kd.C_alloc ?_ _) | (with_reducible refine Kd.C_drewN ?_ _) | (with_reducible refine Kd.C_drew ?_))); (case side2 => exact (Kd.V_reads' HO300.out).2.1); rintro e w51 ⟨rfl, hb⟩; replace HO295 := vb HO295 hb; replace HO300 := vb HO300 hb; replace BK289 := Aside0.mk (blk_below (bo BK289) hb); replace BK290 := Aside0.mk (blk_below (bo BK290) hb); replace HB := Aside0.mk (below_step (bl HB) hb); (try clear hb); (try clear hb2); (try clear hk); (try clear hi)) | (go_at_call 16; (with_reducible refine (sandglassref16_Same.calls kj3 _ _ t293 _ _ l0 true _ ?side1 ?side2 ?side3 ?side4 A39.out).mono ?_); (case side1 => repeat (first | exact (Kd.V_reads' HO295.out).2.2 | (with_reducible refine Kd.C_alloc ?_ _) | (with_reducible refine Kd.C_drewN ?_ _) | (with_reducible refine Kd.C_drew ?_))); (case side2 => exact (Kd.V_reads' HO295.out).2.1); (case side3 => repeat (first | exact (Kd.C_below HR0.out HB.out) | (with_reducible refine Kd.C_alloc ?_ _) | (with_reducible refine Kd.C_drewN ?_ _) | (with_reducible refine Kd.C_drew ?_))); (case side4 => exact HC0.out); rintro e w' ⟨rfl, ⟨nd, rfl⟩⟩) | (go_at_call 16; (with_reducible refine (sandglassref16_Same.calls kj3 _ _ t298 _ _ l0 t306 _ ?side1 ?side2 ?side3 ?side4 A47.out).mono ?_); (case side1 => repeat (first | exact (Kd.V_reads' HO300.out).2.2 | (with_reducible refine Kd.C_alloc ?_ _) | (with_reducible refine Kd.C_drewN ?_ _) | (with_reducible refine Kd.C_drew ?_))); (case side2 => exact (Kd.V_reads' HO300.out).2.1); (case side3 => repeat (first | exact (Kd.C_below HR0.out (bl HB)) | (with_reducible refine Kd.C_alloc ?_ _) | (with_reducible refine Kd.C_drewN ?_ _) | (with_reducible refine Kd.C_drew ?_))); (case side4 => exact HC0.out); rintro e w' ⟨rfl, ⟨nd, rfl⟩⟩))
                      go_meet
                      case rel => exact ⟨_, (!t306), (by first | (with_reducible rfl) | rfl | (simp; done) | (simp [*]; done)), H', ⟨by have := HJ3.out; first | omega | exact Nat.le_refl _⟩, ⟨by (with_reducible repeat (first | apply Kd.V_alloc | apply Kd.V_drewN | apply Kd.V_drew)); exact HO295.out⟩, ⟨by (with_reducible repeat (first | apply Kd.V_alloc | apply Kd.V_drewN | apply Kd.V_drew)); exact HO300.out⟩, ⟨bo BK289⟩, ⟨bo BK290⟩, ⟨bl HB⟩⟩
                  · rw [if_neg c41] at H
                    have c41b0 : (t296 == 0) = false := beq_eq_false_iff_ne.mpr c41
                    have c41b1 : (t296 != 0) = true := bne_iff_ne.mpr c41
                    have H' := Aside0.mk H
                    clear H
                    obtain ⟨Ao52, co52, eo52⟩ := Kd.V_slice HO295.out
                    subst eo52
                    go_wp2_with (first | ((with_reducible refine gate_callee (f := 11) rfl ?_); refine goesL_ (some 58) rfl rfl Try.func11 (by kernel_rfl) rfl #[.slice Ao52 t293.length co52] rfl (by (try simp only [List.map_toArray, List.map_cons, List.map_nil]); first | done | rfl | (simp only [List.length_drop, List.length_take]; rfl)) ?_; (with_reducible refine (books_May.calls kj3 _ _ t293 true _ ?side1 ?side2 A24.out).mono ?_); (case side1 => repeat (first | exact (Kd.V_reads' HO295.out).2.2 | (with_reducible refine Kd.C_alloc ?_ _) | (with_reducible refine Kd.C_drewN ?_ _) | (with_reducible refine Kd.C_drew ?_))); (case side2 => exact (Kd.V_reads' HO295.out).2.1); rintro e w53 ⟨rfl, hb⟩; refine ⟨_, rfl, ?_⟩; replace HO295 := vb HO295 hb; replace HO300 := vb HO300 hb; replace BK289 := Aside0.mk (blk_below (bo BK289) hb); replace BK290 := Aside0.mk (blk_below (bo BK290) hb); replace HB := Aside0.mk (below_step (bl HB) hb); (try clear hb); (try clear hb2); (try clear hk); (try clear hi); obtain ⟨Ao54, co54, eo54⟩ := Kd.V_slice HO300.out; subst eo54) | (go_at_call 11; (with_reducible refine (books_May.calls kj3 _ _ t298 true _ ?side1 ?side2 A26.out).mono ?_); (case side1 => repeat (first | exact (Kd.V_reads' HO300.out).2.2 | (with_reducible refine Kd.C_alloc ?_ _) | (with_reducible refine Kd.C_drewN ?_ _) | (with_reducible refine Kd.C_drew ?_))); (case side2 => exact (Kd.V_reads' HO300.out).2.1); rintro e w55 ⟨rfl, hb⟩; replace HO295 := vb HO295 hb; replace HO300 := vb HO300 hb; replace BK289 := Aside0.mk (blk_below (bo BK289) hb); replace BK290 := Aside0.mk (blk_below (bo BK290) hb); replace HB := Aside0.mk (below_step (bl HB) hb); (try clear hb); (try clear hb2); (try clear hk); (try clear hi)) | (go_at_call 16; (with_reducible refine (sandglassref16_Same.calls kj3 _ _ t293 _ _ l0 true _ ?side1 ?side2 ?side3 ?side4 A39.out).mono ?_); (case side1 => repeat (first | exact (Kd.V_reads' HO295.out).2.2 | (with_reducible refine Kd.C_alloc ?_ _) | (with_reducible refine Kd.C_drewN ?_ _) | (with_reducible refine Kd.C_drew ?_))); (case side2 => exact (Kd.V_reads' HO295.out).2.1); (case side3 => repeat (first | exact (Kd.C_below HR0.out HB.out) | (with_reducible refine Kd.C_alloc ?_ _) | (with_reducible refine Kd.C_drewN ?_ _) | (with_reducible refine Kd.C_drew ?_))); (case side4 => exact HC0.out); rintro e w' ⟨rfl, ⟨nd, rfl⟩⟩))
                    go_meet
                    case rel => exact ⟨_, (true), (by first | (with_reducible rfl) | rfl | (simp; done) | (simp [*]; done)), H', ⟨by have := HJ3.out; first | omega | exact Nat.le_refl _⟩, ⟨by (with_reducible repeat (first | apply Kd.V_alloc | apply Kd.V_drewN | apply Kd.V_drew)); exact HO295.out⟩, ⟨by (with_reducible repeat (first | apply Kd.V_alloc | apply Kd.V_drewN | apply Kd.V_drew)); exact HO300.out⟩, ⟨bo BK289⟩, ⟨bo BK290⟩, ⟨bl HB⟩⟩
                · replace c40 := Bool.eq_false_iff.mpr c40
                  subst c40
                  rw [if_neg (show ¬ (false = true) by decide)] at H
                  have H' := Aside0.mk H
                  clear H
                  obtain ⟨Ao56, co56, eo56⟩ := Kd.V_slice HO295.out
                  subst eo56
                  go_wp2_with (first | ((with_reducible refine gate_callee (f := 11) rfl ?_); refine goesL_ (some 58) rfl rfl Try.func11 (by kernel_rfl) rfl #[.slice Ao56 t293.length co56] rfl (by (try simp only [List.map_toArray, List.map_cons, List.map_nil]); first | done | rfl | (simp only [List.length_drop, List.length_take]; rfl)) ?_; (with_reducible refine (books_May.calls kj3 _ _ t293 true _ ?side1 ?side2 A24.out).mono ?_); (case side1 => repeat (first | exact (Kd.V_reads' HO295.out).2.2 | (with_reducible refine Kd.C_alloc ?_ _) | (with_reducible refine Kd.C_drewN ?_ _) | (with_reducible refine Kd.C_drew ?_))); (case side2 => exact (Kd.V_reads' HO295.out).2.1); rintro e w57 ⟨rfl, hb⟩; refine ⟨_, rfl, ?_⟩; replace HO295 := vb HO295 hb; replace HO300 := vb HO300 hb; replace BK289 := Aside0.mk (blk_below (bo BK289) hb); replace BK290 := Aside0.mk (blk_below (bo BK290) hb); replace HB := Aside0.mk (below_step (bl HB) hb); (try clear hb); (try clear hb2); (try clear hk); (try clear hi); obtain ⟨Ao58, co58, eo58⟩ := Kd.V_slice HO300.out; subst eo58) | (go_at_call 11; (with_reducible refine (books_May.calls kj3 _ _ t298 true _ ?side1 ?side2 A26.out).mono ?_); (case side1 => repeat (first | exact (Kd.V_reads' HO300.out).2.2 | (with_reducible refine Kd.C_alloc ?_ _) | (with_reducible refine Kd.C_drewN ?_ _) | (with_reducible refine Kd.C_drew ?_))); (case side2 => exact (Kd.V_reads' HO300.out).2.1); rintro e w59 ⟨rfl, hb⟩; replace HO295 := vb HO295 hb; replace HO300 := vb HO300 hb; replace BK289 := Aside0.mk (blk_below (bo BK289) hb); replace BK290 := Aside0.mk (blk_below (bo BK290) hb); replace HB := Aside0.mk (below_step (bl HB) hb); (try clear hb); (try clear hb2); (try clear hk); (try clear hi)) | (go_at_call 16; (with_reducible refine (sandglassref16_Same.calls kj3 _ _ t293 _ _ l0 false _ ?side1 ?side2 ?side3 ?side4 A39.out).mono ?_); (case side1 => repeat (first | exact (Kd.V_reads' HO295.out).2.2 | (with_reducible refine Kd.C_alloc ?_ _) | (with_reducible refine Kd.C_drewN ?_ _) | (with_reducible refine Kd.C_drew ?_))); (case side2 => exact (Kd.V_reads' HO295.out).2.1); (case side3 => repeat (first | exact (Kd.C_below HR0.out HB.out) | (with_reducible refine Kd.C_alloc ?_ _) | (with_reducible refine Kd.C_drewN ?_ _) | (with_reducible refine Kd.C_drew ?_))); (case side4 => exact HC0.out); rintro e w' ⟨rfl, ⟨nd, rfl⟩⟩))
                  go_meet
                  case rel => exact ⟨_, (true), (by first | (with_reducible rfl) | rfl | (simp; done) | (simp [*]; done)), H', ⟨by have := HJ3.out; first | omega | exact Nat.le_refl _⟩, ⟨by (with_reducible repeat (first | apply Kd.V_alloc | apply Kd.V_drewN | apply Kd.V_drew)); exact HO295.out⟩, ⟨by (with_reducible repeat (first | apply Kd.V_alloc | apply Kd.V_drewN | apply Kd.V_drew)); exact HO300.out⟩, ⟨bo BK289⟩, ⟨bo BK290⟩, ⟨bl HB⟩⟩
            · replace c27 := Bool.eq_false_iff.mpr c27
              subst c27
              rw [if_neg (show ¬ (false = true) by decide)] at H
              have H' := Aside0.mk H
              clear H
              obtain ⟨Ao60, co60, eo60⟩ := Kd.V_slice HO295.out
              subst eo60
              go_wp2_with (first | ((with_reducible refine gate_callee (f := 11) rfl ?_); refine goesL_ (some 58) rfl rfl Try.func11 (by kernel_rfl) rfl #[.slice Ao60 t293.length co60] rfl (by (try simp only [List.map_toArray, List.map_cons, List.map_nil]); first | done | rfl | (simp only [List.length_drop, List.length_take]; rfl)) ?_; (with_reducible refine (books_May.calls kj3 _ _ t293 true _ ?side1 ?side2 A24.out).mono ?_); (case side1 => repeat (first | exact (Kd.V_reads' HO295.out).2.2 | (with_reducible refine Kd.C_alloc ?_ _) | (with_reducible refine Kd.C_drewN ?_ _) | (with_reducible refine Kd.C_drew ?_))); (case side2 => exact (Kd.V_reads' HO295.out).2.1); rintro e w61 ⟨rfl, hb⟩; refine ⟨_, rfl, ?_⟩; replace HO295 := vb HO295 hb; replace HO300 := vb HO300 hb; replace BK289 := Aside0.mk (blk_below (bo BK289) hb); replace BK290 := Aside0.mk (blk_below (bo BK290) hb); replace HB := Aside0.mk (below_step (bl HB) hb); (try clear hb); (try clear hb2); (try clear hk); (try clear hi); obtain ⟨Ao62, co62, eo62⟩ := Kd.V_slice HO300.out; subst eo62) | (go_at_call 11; (with_reducible refine (books_May.calls kj3 _ _ t298 false _ ?side1 ?side2 A26.out).mono ?_); (case side1 => repeat (first | exact (Kd.V_reads' HO300.out).2.2 | (with_reducible refine Kd.C_alloc ?_ _) | (with_reducible refine Kd.C_drewN ?_ _) | (with_reducible refine Kd.C_drew ?_))); (case side2 => exact (Kd.V_reads' HO300.out).2.1); rintro e w63 ⟨rfl, hb⟩; replace HO295 := vb HO295 hb; replace HO300 := vb HO300 hb; replace BK289 := Aside0.mk (blk_below (bo BK289) hb); replace BK290 := Aside0.mk (blk_below (bo BK290) hb); replace HB := Aside0.mk (below_step (bl HB) hb); (try clear hb); (try clear hb2); (try clear hk); (try clear hi)))
              go_meet
              case rel => exact ⟨_, (true), (by first | (with_reducible rfl) | rfl | (simp; done) | (simp [*]; done)), H', ⟨by have := HJ3.out; first | omega | exact Nat.le_refl _⟩, ⟨by (with_reducible repeat (first | apply Kd.V_alloc | apply Kd.V_drewN | apply Kd.V_drew)); exact HO295.out⟩, ⟨by (with_reducible repeat (first | apply Kd.V_alloc | apply Kd.V_drewN | apply Kd.V_drew)); exact HO300.out⟩, ⟨bo BK289⟩, ⟨bo BK290⟩, ⟨bl HB⟩⟩
          · replace c25 := Bool.eq_false_iff.mpr c25
            subst c25
            rw [if_neg (show ¬ (false = true) by decide)] at H
            have H' := Aside0.mk H
            clear H
            obtain ⟨Ao64, co64, eo64⟩ := Kd.V_slice HO295.out
            subst eo64
            go_wp2_with (first | ((with_reducible refine gate_callee (f := 11) rfl ?_); refine goesL_ (some 58) rfl rfl Try.func11 (by kernel_rfl) rfl #[.slice Ao64 t293.length co64] rfl (by (try simp only [List.map_toArray, List.map_cons, List.map_nil]); first | done | rfl | (simp only [List.length_drop, List.length_take]; rfl)) ?_; (with_reducible refine (books_May.calls kj3 _ _ t293 false _ ?side1 ?side2 A24.out).mono ?_); (case side1 => repeat (first | exact (Kd.V_reads' HO295.out).2.2 | (with_reducible refine Kd.C_alloc ?_ _) | (with_reducible refine Kd.C_drewN ?_ _) | (with_reducible refine Kd.C_drew ?_))); (case side2 => exact (Kd.V_reads' HO295.out).2.1); rintro e w65 ⟨rfl, hb⟩; refine ⟨_, rfl, ?_⟩; replace HO295 := vb HO295 hb; replace HO300 := vb HO300 hb; replace BK289 := Aside0.mk (blk_below (bo BK289) hb); replace BK290 := Aside0.mk (blk_below (bo BK290) hb); replace HB := Aside0.mk (below_step (bl HB) hb); (try clear hb); (try clear hb2); (try clear hk); (try clear hi)))
            go_meet
            case rel => exact ⟨_, (true), (by first | (with_reducible rfl) | rfl | (simp; done) | (simp [*]; done)), H', ⟨by have := HJ3.out; first | omega | exact Nat.le_refl _⟩, ⟨by (with_reducible repeat (first | apply Kd.V_alloc | apply Kd.V_drewN | apply Kd.V_drew)); exact HO295.out⟩, ⟨by (with_reducible repeat (first | apply Kd.V_alloc | apply Kd.V_drewN | apply Kd.V_drew)); exact HO300.out⟩, ⟨bo BK289⟩, ⟨bo BK290⟩, ⟨bl HB⟩⟩
        case rest =>
          as_aux_lemma =>
          clear HC17
          try clear c1
          try clear c2
          try clear p2
          try clear c4
          try clear c5
          try clear c7
          try clear c7b0
          try clear c7b1
          try clear c8
          try clear c9
          try clear c11
          try clear c12
          try clear c18
          try clear c19
          try clear c21
          try clear c25
          try clear c27
          try clear c28
          try clear c28b0
          try clear c28b1
          try clear c29
          try clear c29b0
          try clear c29b1
          try clear c40
          try clear c41
          try clear c41b0
          try clear c41b1
          try clear c42
          try clear c42b0
          try clear c42b1
          try clear hcz19_0
          try clear hcz19_1
          try clear hcz20_0
          try clear hcz20_1
          try clear hcz20_2
          try clear hcz20_3
          try clear hcz22_0
          try clear hcz22_1
          try clear hfz19_0
          try clear hfz19_1
          try clear hfz20_0
          try clear hfz20_1
          try clear hfz20_2
          try clear hfz20_3
          try clear hfz22_0
          try clear hfz22_1
          try clear p2
          obtain ⟨kq, x88_16, rfl, HA, HJ16, HO_7, HO_10, BK289, BK290, HB⟩ := hcut
          cases kq with
          | zero => exact absurd HA.out (by simp [sandglasslaw16_BooksMay.j1])
          | succ kj16 =>
            have H := HA.out
            clear HA
            simp only [sandglasslaw16_BooksMay.j1] at H
            by_cases c66 : x88_16 = true
            · subst c66
              rw [if_pos rfl] at H
              exact absurd H (by simp)
            · replace c66 := Bool.eq_false_iff.mpr c66
              subst c66
              rw [if_neg (show ¬ (false = true) by decide)] at H
              have HC67 := Aside0.mk H
              clear H
              go_upto_if 90 with (fail)
              go_cut [] (fun wc => ∃ (kq : Nat), Aside0 (sandglasslaw16_BooksMay.j3 kq l0 t293 t298 t301 a1_0 a1_1 = some r) ∧ Aside0 (kq ≤ kj16) ∧ Aside0 (Kd.V k43 43 wc w.heap.size (fun k_ => k_ ≠ gb289 ∧ k_ ≠ gb290) v294 t293) ∧ Aside0 (Kd.V k43 43 wc w.heap.size (fun k_ => k_ ≠ gb289 ∧ k_ ≠ gb290) v299 t298) ∧ Aside0 (wc.heap[gb289]? = some (.cells #[.int .i64 a1_0, .int .i64 a1_1] 41 (0, 0))) ∧ Aside0 (wc.heap[gb290]? = some (.cells #[.int .i64 a2_0, .int .i64 a2_1, .int .i64 a2_2, .int .i64 a2_3] 25 (0, 0))) ∧ Aside0 (Below w.heap.size w wc))
              case first =>
                as_aux_lemma =>
                have H := HC67.out
                clear HC67
                by_cases c68 : t297 = 0
                · rw [if_pos c68] at H
                  have c68b0 : (t297 == 0) = true := beq_iff_eq.mpr c68
                  have c68b1 : (t297 != 0) = false := bne_eq_false_iff_eq.mpr c68
                  clear c68
                  (first | rw [c68b0] | (simp only [i64_w, i32_w]; rw [c68b0]) | skip)
                  replace H := Option.bind_eq_some_iff.mp H
                  obtain ⟨⟨t307, t308, t309, t310, t311, t312⟩, A690, H⟩ := H
                  have A69 := Aside0.mk A690
                  clear A690
                  have HC70 := Aside0.mk H
                  clear H
                  have hnb71 := NB289_290.out
                  have hnc71 := NB290_289.out
                  obtain ⟨hcz72_0, hcz72_1⟩ := ce2 BK289
                  obtain ⟨hfz72_0, hfz72_1⟩ := fr2 BK289
                  obtain ⟨Ao73, co73, eo73⟩ := Kd.V_slice HO_7.out
                  subst eo73
                  go_upto_region 9 with (first | ((with_reducible refine gate_callee (f := 9) rfl ?_); refine goesL_ (some 95) rfl rfl Try.func9 (by kernel_rfl) rfl #[.slice Ao73 t293.length co73, .int .i64 a1_0] rfl (by (try simp only [List.map_toArray, List.map_cons, List.map_nil]); first | done | rfl | (simp only [List.length_drop, List.length_take]; rfl)) ?_; (with_reducible refine (books_Get.calls kj16 _ _ t293 a1_0 t307 t308 t309 t310 t311 t312 _ ?side1 ?side2 A69.out).mono ?_); (case side1 => repeat (first | exact (Kd.V_reads' HO_7.out).2.2 | (with_reducible refine Kd.C_alloc ?_ _) | (with_reducible refine Kd.C_drewN ?_ _) | (with_reducible refine Kd.C_drew ?_))); (case side2 => exact (Kd.V_reads' HO_7.out).2.1); rintro e w74 ⟨rfl, hb⟩; refine ⟨_, rfl, ?_⟩; replace HO_7 := vb HO_7 hb; replace HO_10 := vb HO_10 hb; replace BK289 := Aside0.mk (blk_below (bo BK289) hb); replace BK290 := Aside0.mk (blk_below (bo BK290) hb); replace HB := Aside0.mk (below_step (bl HB) hb); (try clear hb); (try clear hb2); (try clear hk); (try clear hi)) | ((with_reducible refine gate_dst (N := 12) rfl ?_); (try (refine gate_guard (by rfl) ?_; dsimp only)); refine box_event ?hg (N := 12) ?hd (cs := #[.int .i64 0, .int .i64 0, .int .i64 0, .int .i64 0]) (t := 25) ?hr ?_; (case hd => rfl); (case hg => rfl); (case hr => first | (go_simp; done) | (go_simp; rfl)); intro gb313 hg w75 hbox hb; have BK313 := Aside0.mk (hbox); have GW313 := Aside0.mk ((by rw [hg]; exact (below_size (bl HB)) : w.heap.size ≤ gb313)); have GE313 := Aside0.mk ((by rw [hg]; exact (below_size (bl HB)) : w.heap.size ≤ gb313)); have NB289_313 := nb BK289 hg; have NB313_289 := bn BK289 hg; have NB290_313 := nb BK290 hg; have NB313_290 := bn BK290 hg; replace HO_7 := ve HO_7 hg hb; replace HO_10 := ve HO_10 hg hb; replace BK289 := Aside0.mk (blk_below (bo BK289) hb); replace BK290 := Aside0.mk (blk_below (bo BK290) hb); replace HB := Aside0.mk (below_step (bl HB) hb); clear hb hbox hg; have hnb76 := NB313_289.out; have hnc76 := NB289_313.out; have hnb77 := NB313_290.out; have hnc77 := NB290_313.out; obtain ⟨hcz78_0, hcz78_1, hcz78_2, hcz78_3⟩ := ce4 BK313; obtain ⟨hfz78_0, hfz78_1, hfz78_2, hfz78_3⟩ := fr4 BK313) | ((with_reducible refine gate_store (t := 25) (p := 12) rfl ?_); refine store_event (t := 25) (p := 12) (v := ?vo_w79) (w1 := ((((w75.setCell ⟨gb313, 0, none⟩ (.int .i64 t307)).setCell ⟨gb313, 1, none⟩ (.int .i64 t308)).setCell ⟨gb313, 2, none⟩ (.int .i64 t309)).setCell ⟨gb313, 3, none⟩ (.int .i64 t310))) ?hg ?ho ?hn ?hr ?_; (case ho => rfl); (case hg => rfl); (case hn => rfl); (case hr => first | (go_simp; done) | (go_simp; rfl)); intro w79 hw; replace HO_7 : Aside0 (Kd.V k43 43 w79 w.heap.size (fun k_ => k_ ≠ gb289 ∧ k_ ≠ gb290 ∧ k_ ≠ gb313) (.slice Ao73 t293.length co73) t293) := ⟨(by rw [hw]; exact (by (with_reducible repeat (first | apply Kd.V_alloc | apply Kd.V_drewN | apply Kd.V_drew)); exact Kd.V_mono (Kd.V_far (p := ⟨gb313, 3, none⟩) (Kd.V_far (p := ⟨gb313, 2, none⟩) (Kd.V_far (p := ⟨gb313, 1, none⟩) (Kd.V_far (p := ⟨gb313, 0, none⟩) (Kd.V_mono HO_7.out (fun k_ hk => (⟨hk, hk.2⟩ : _ ∧ k_ ≠ gb313))) (fun _ hk => hk.2) (.int .i64 t307)) (fun _ hk => hk.2) (.int .i64 t308)) (fun _ hk => hk.2) (.int .i64 t309)) (fun _ hk => hk.2) (.int .i64 t310)) (fun _ hk => ⟨hk.1.1.1, ⟨hk.1.1.2, hk.1.2⟩⟩)))⟩; replace HO_10 : Aside0 (Kd.V k43 43 w79 w.heap.size (fun k_ => k_ ≠ gb289 ∧ k_ ≠ gb290 ∧ k_ ≠ gb313) v299 t298) := ⟨(by rw [hw]; exact (by (with_reducible repeat (first | apply Kd.V_alloc | apply Kd.V_drewN | apply Kd.V_drew)); exact Kd.V_mono (Kd.V_far (p := ⟨gb313, 3, none⟩) (Kd.V_far (p := ⟨gb313, 2, none⟩) (Kd.V_far (p := ⟨gb313, 1, none⟩) (Kd.V_far (p := ⟨gb313, 0, none⟩) (Kd.V_mono HO_10.out (fun k_ hk => (⟨hk, hk.2⟩ : _ ∧ k_ ≠ gb313))) (fun _ hk => hk.2) (.int .i64 t307)) (fun _ hk => hk.2) (.int .i64 t308)) (fun _ hk => hk.2) (.int .i64 t309)) (fun _ hk => hk.2) (.int .i64 t310)) (fun _ hk => ⟨hk.1.1.1, ⟨hk.1.1.2, hk.1.2⟩⟩)))⟩; replace BK289 : Aside0 (w79.heap[gb289]? = some (.cells #[.int .i64 a1_0, .int .i64 a1_1] 41 (0, 0))) := ⟨(by rw [hw]; exact (by (with_reducible repeat (first | refine blk_drewN ?_ _ | refine blk_drew ?_ | refine blk_alloc ?_ _)); refine blk_far ?_ NB289_313.out _; (with_reducible repeat (first | refine blk_drewN ?_ _ | refine blk_drew ?_ | refine blk_alloc ?_ _)); refine blk_far ?_ NB289_313.out _; (with_reducible repeat (first | refine blk_drewN ?_ _ | refine blk_drew ?_ | refine blk_alloc ?_ _)); refine blk_far ?_ NB289_313.out _; (with_reducible repeat (first | refine blk_drewN ?_ _ | refine blk_drew ?_ | refine blk_alloc ?_ _)); refine blk_far ?_ NB289_313.out _; (with_reducible repeat (first | refine blk_drewN ?_ _ | refine blk_drew ?_ | refine blk_alloc ?_ _)); exact BK289.out))⟩; replace BK290 : Aside0 (w79.heap[gb290]? = some (.cells #[.int .i64 a2_0, .int .i64 a2_1, .int .i64 a2_2, .int .i64 a2_3] 25 (0, 0))) := ⟨(by rw [hw]; exact (by (with_reducible repeat (first | refine blk_drewN ?_ _ | refine blk_drew ?_ | refine blk_alloc ?_ _)); refine blk_far ?_ NB290_313.out _; (with_reducible repeat (first | refine blk_drewN ?_ _ | refine blk_drew ?_ | refine blk_alloc ?_ _)); refine blk_far ?_ NB290_313.out _; (with_reducible repeat (first | refine blk_drewN ?_ _ | refine blk_drew ?_ | refine blk_alloc ?_ _)); refine blk_far ?_ NB290_313.out _; (with_reducible repeat (first | refine blk_drewN ?_ _ | refine blk_drew ?_ | refine blk_alloc ?_ _)); refine blk_far ?_ NB290_313.out _; (with_reducible repeat (first | refine blk_drewN ?_ _ | refine blk_drew ?_ | refine blk_alloc ?_ _)); exact BK290.out))⟩; replace BK313 : Aside0 (w79.heap[gb313]? = some (.cells #[.int .i64 t307, .int .i64 t308, .int .i64 t309, .int .i64 t310] 25 (0, 0))) := ⟨(by rw [hw]; exact (by (with_reducible repeat (first | refine blk_drewN ?_ _ | refine blk_drew ?_ | refine blk_alloc ?_ _)); refine blk_put (cs := #[.int .i64 t307, .int .i64 t308, .int .i64 t309, .int .i64 0]) ?_ 3 _ rfl; (with_reducible repeat (first | refine blk_drewN ?_ _ | refine blk_drew ?_ | refine blk_alloc ?_ _)); refine blk_put (cs := #[.int .i64 t307, .int .i64 t308, .int .i64 0, .int .i64 0]) ?_ 2 _ rfl; (with_reducible repeat (first | refine blk_drewN ?_ _ | refine blk_drew ?_ | refine blk_alloc ?_ _)); refine blk_put (cs := #[.int .i64 t307, .int .i64 0, .int .i64 0, .int .i64 0]) ?_ 1 _ rfl; (with_reducible repeat (first | refine blk_drewN ?_ _ | refine blk_drew ?_ | refine blk_alloc ?_ _)); refine blk_put (cs := #[.int .i64 0, .int .i64 0, .int .i64 0, .int .i64 0]) ?_ 0 _ rfl; (with_reducible repeat (first | refine blk_drewN ?_ _ | refine blk_drew ?_ | refine blk_alloc ?_ _)); exact BK313.out))⟩; replace HB : Aside0 (Below w.heap.size w w79) := ⟨(by rw [hw]; exact (bl HB))⟩; clear hw))
                  (try simp only [Act.put, List.setIfInBounds_toArray, List.set_cons_zero, List.set_cons_succ])
                  go_cut [126] (fun v126 wc => ∃ (kq : Nat) (x126_69 : Bool), v126 = .bool x126_69 ∧ Aside0 (sandglasslaw16_BooksMay.j2 kq l0 t293 t298 t301 x126_69 a1_0 a1_1 = some r) ∧ Aside0 (kq ≤ kj16) ∧ Aside0 (Kd.V k43 43 wc w.heap.size (fun k_ => k_ ≠ gb289 ∧ k_ ≠ gb290 ∧ k_ ≠ gb313) (.slice Ao73 t293.length co73) t293) ∧ Aside0 (Kd.V k43 43 wc w.heap.size (fun k_ => k_ ≠ gb289 ∧ k_ ≠ gb290 ∧ k_ ≠ gb313) v299 t298) ∧ Aside0 (wc.heap[gb289]? = some (.cells #[.int .i64 a1_0, .int .i64 a1_1] 41 (0, 0))) ∧ Aside0 (wc.heap[gb290]? = some (.cells #[.int .i64 a2_0, .int .i64 a2_1, .int .i64 a2_2, .int .i64 a2_3] 25 (0, 0))) ∧ Aside0 (wc.heap[gb313]? = some (.cells #[.int .i64 t307, .int .i64 t308, .int .i64 t309, .int .i64 t310] 25 (0, 0))) ∧ Aside0 (Below w.heap.size w wc))
                  case first =>
                    as_aux_lemma =>
                    have H := HC70.out
                    clear HC70
                    by_cases c80 : (!(t307 == a2_0) || (!(t308 == a2_1) || (!(t309 == a2_2) || (!(t310 == a2_3))))) = true
                    · rw [if_pos c80] at H
                      have c80b0 : (!(t307 == a2_0) || (!(t308 == a2_1) || (!(t309 == a2_2) || (!(t310 == a2_3))))) = true := c80
                      clear c80
                      (first | rw [c80b0] | (simp only [i64_w, i32_w]; rw [c80b0]) | skip)
                      have H' := Aside0.mk H
                      clear H
                      have hnb81 := NB313_289.out
                      have hnc81 := NB289_313.out
                      have hnb82 := NB313_290.out
                      have hnc82 := NB290_313.out
                      obtain ⟨hcz83_0, hcz83_1, hcz83_2, hcz83_3⟩ := ce4 BK313
                      obtain ⟨hfz83_0, hfz83_1, hfz83_2, hfz83_3⟩ := fr4 BK313
                      have hnb84 := NB290_289.out
                      have hnc84 := NB289_290.out
                      obtain ⟨hcz85_0, hcz85_1, hcz85_2, hcz85_3⟩ := ce4 BK290
                      obtain ⟨hfz85_0, hfz85_1, hfz85_2, hfz85_3⟩ := fr4 BK290
                      go_wp2
                      go_meet
                      case rel => exact ⟨_, (true), (by first | (with_reducible rfl) | rfl | (simp; done) | (simp [*]; done)), H', ⟨by have := HJ3.out; have := HJ16.out; first | omega | exact Nat.le_refl _⟩, ⟨by (with_reducible repeat (first | apply Kd.V_alloc | apply Kd.V_drewN | apply Kd.V_drew)); exact HO_7.out⟩, ⟨by (with_reducible repeat (first | apply Kd.V_alloc | apply Kd.V_drewN | apply Kd.V_drew)); exact HO_10.out⟩, ⟨bo BK289⟩, ⟨bo BK290⟩, ⟨bo BK313⟩, ⟨bl HB⟩⟩
                    · rw [if_neg c80] at H
                      have c80b0 : (!(t307 == a2_0) || (!(t308 == a2_1) || (!(t309 == a2_2) || (!(t310 == a2_3))))) = false := by simpa using c80
                      clear c80
                      (first | rw [c80b0] | (simp only [i64_w, i32_w]; rw [c80b0]) | skip)
                      by_cases c86 : t311 = t296
                      · rw [if_pos c86] at H
                        have c86b0 : (t311 == t296) = true := beq_iff_eq.mpr c86
                        have c86b1 : (t311 != t296) = false := bne_eq_false_iff_eq.mpr c86
                        clear c86
                        by_cases c87 : t312 = 0
                        · rw [if_pos c87] at H
                          have c87b0 : (t312 == 0) = true := beq_iff_eq.mpr c87
                          have c87b1 : (t312 != 0) = false := bne_eq_false_iff_eq.mpr c87
                          clear c87
                          by_cases c88 : 0 ≤ a1_0
                          · rw [if_pos c88] at H
                            have c88b0 : decide (0 ≤ a1_0) = true := decide_eq_true c88
                            clear c88
                            by_cases c89 : a1_0 < (l0.length : Int)
                            · rw [if_pos c89] at H
                              have c89b0 : decide (a1_0 < (l0.length : Int)) = true := decide_eq_true c89
                              clear c89
                              by_cases c90 : t296 = (wrap64 (((rd_T43 l0 a1_0).f2) + 1))
                              · rw [if_pos c90] at H
                                have c90b0 : (t296 == (wrap64 (((rd_T43 l0 a1_0).f2) + 1))) = true := beq_iff_eq.mpr c90
                                have c90b1 : (t296 != (wrap64 (((rd_T43 l0 a1_0).f2) + 1))) = false := bne_eq_false_iff_eq.mpr c90
                                clear c90
                                replace H := Option.bind_eq_some_iff.mp H
                                obtain ⟨t315, A910, H⟩ := H
                                have A91 := Aside0.mk A910
                                clear A910
                                have H' := Aside0.mk H
                                clear H
                                have hnb92 := NB313_289.out
                                have hnc92 := NB289_313.out
                                have hnb93 := NB313_290.out
                                have hnc93 := NB290_313.out
                                obtain ⟨hcz94_0, hcz94_1, hcz94_2, hcz94_3⟩ := ce4 BK313
                                obtain ⟨hfz94_0, hfz94_1, hfz94_2, hfz94_3⟩ := fr4 BK313
                                have hnb95 := NB290_289.out
                                have hnc95 := NB289_290.out
                                obtain ⟨hcz96_0, hcz96_1, hcz96_2, hcz96_3⟩ := ce4 BK290
                                obtain ⟨hfz96_0, hfz96_1, hfz96_2, hfz96_3⟩ := fr4 BK290
                                obtain ⟨hcz97_0, hcz97_1⟩ := ce2 BK289
                                obtain ⟨hfz97_0, hfz97_1⟩ := fr2 BK289
                                have p314 : 0 ≤ (a1_0 : Int) := of_decide_eq_true (by first | (with_reducible assumption) | assumption)
                                have q314 : a1_0 < (l0.length : Int) := of_decide_eq_true (by first | (with_reducible assumption) | assumption)
                                obtain ⟨ad314, e314, hx314_0, hx314_1, hx314_2, hx314_3, hx314_4, hx314_5⟩ := at_T43 HR0.out a1_0 p314 q314
                                cases e314
                                replace hx314_0 := (HB.out.cell (World.block_lt_of_cell? w _ hx314_0)).trans hx314_0
                                replace hx314_1 := (HB.out.cell (World.block_lt_of_cell? w _ hx314_1)).trans hx314_1
                                replace hx314_2 := (HB.out.cell (World.block_lt_of_cell? w _ hx314_2)).trans hx314_2
                                replace hx314_3 := (HB.out.cell (World.block_lt_of_cell? w _ hx314_3)).trans hx314_3
                                replace hx314_4 := (HB.out.cell (World.block_lt_of_cell? w _ hx314_4)).trans hx314_4
                                replace hx314_5 := (HB.out.cell (World.block_lt_of_cell? w _ hx314_5)).trans hx314_5
                                replace p314 := eq_true p314
                                replace q314 := eq_true q314
                                go_wp2_with (first | (go_at_call 23; (with_reducible refine (sandglassref09_Check.calls kj16 a2_0 a2_1 a2_2 a2_3 t315 _ A91.out).mono ?_); rintro e w98 ⟨rfl, hb⟩; replace HO_7 := vb HO_7 hb; replace HO_10 := vb HO_10 hb; replace BK289 := Aside0.mk (blk_below (bo BK289) hb); replace BK290 := Aside0.mk (blk_below (bo BK290) hb); replace BK313 := Aside0.mk (blk_below (bo BK313) hb); replace HB := Aside0.mk (below_step (bl HB) hb); (try clear hb); (try clear hb2); (try clear hk); (try clear hi)))
                                go_meet
                                case rel => exact ⟨_, ((t315 != 0)), (by first | (with_reducible rfl) | rfl | (simp; done) | (simp [*]; done)), H', ⟨by have := HJ3.out; have := HJ16.out; first | omega | exact Nat.le_refl _⟩, ⟨by (with_reducible repeat (first | apply Kd.V_alloc | apply Kd.V_drewN | apply Kd.V_drew)); exact HO_7.out⟩, ⟨by (with_reducible repeat (first | apply Kd.V_alloc | apply Kd.V_drewN | apply Kd.V_drew)); exact HO_10.out⟩, ⟨bo BK289⟩, ⟨bo BK290⟩, ⟨bo BK313⟩, ⟨bl HB⟩⟩
                              · rw [if_neg c90] at H
                                have c90b0 : (t296 == (wrap64 (((rd_T43 l0 a1_0).f2) + 1))) = false := beq_eq_false_iff_ne.mpr c90
                                have c90b1 : (t296 != (wrap64 (((rd_T43 l0 a1_0).f2) + 1))) = true := bne_iff_ne.mpr c90
                                have H' := Aside0.mk H
                                clear H
                                have hnb99 := NB313_289.out
                                have hnc99 := NB289_313.out
                                have hnb100 := NB313_290.out
                                have hnc100 := NB290_313.out
                                obtain ⟨hcz101_0, hcz101_1, hcz101_2, hcz101_3⟩ := ce4 BK313
                                obtain ⟨hfz101_0, hfz101_1, hfz101_2, hfz101_3⟩ := fr4 BK313
                                have hnb102 := NB290_289.out
                                have hnc102 := NB289_290.out
                                obtain ⟨hcz103_0, hcz103_1, hcz103_2, hcz103_3⟩ := ce4 BK290
                                obtain ⟨hfz103_0, hfz103_1, hfz103_2, hfz103_3⟩ := fr4 BK290
                                obtain ⟨hcz104_0, hcz104_1⟩ := ce2 BK289
                                obtain ⟨hfz104_0, hfz104_1⟩ := fr2 BK289
                                have p314 : 0 ≤ (a1_0 : Int) := of_decide_eq_true (by first | (with_reducible assumption) | assumption)
                                have q314 : a1_0 < (l0.length : Int) := of_decide_eq_true (by first | (with_reducible assumption) | assumption)
                                obtain ⟨ad314, e314, hx314_0, hx314_1, hx314_2, hx314_3, hx314_4, hx314_5⟩ := at_T43 HR0.out a1_0 p314 q314
                                cases e314
                                replace hx314_0 := (HB.out.cell (World.block_lt_of_cell? w _ hx314_0)).trans hx314_0
                                replace hx314_1 := (HB.out.cell (World.block_lt_of_cell? w _ hx314_1)).trans hx314_1
                                replace hx314_2 := (HB.out.cell (World.block_lt_of_cell? w _ hx314_2)).trans hx314_2
                                replace hx314_3 := (HB.out.cell (World.block_lt_of_cell? w _ hx314_3)).trans hx314_3
                                replace hx314_4 := (HB.out.cell (World.block_lt_of_cell? w _ hx314_4)).trans hx314_4
                                replace hx314_5 := (HB.out.cell (World.block_lt_of_cell? w _ hx314_5)).trans hx314_5
                                replace p314 := eq_true p314
                                replace q314 := eq_true q314
                                go_wp2
                                go_meet
                                case rel => exact ⟨_, (true), (by first | (with_reducible rfl) | rfl | (simp; done) | (simp [*]; done)), H', ⟨by have := HJ3.out; have := HJ16.out; first | omega | exact Nat.le_refl _⟩, ⟨by (with_reducible repeat (first | apply Kd.V_alloc | apply Kd.V_drewN | apply Kd.V_drew)); exact HO_7.out⟩, ⟨by (with_reducible repeat (first | apply Kd.V_alloc | apply Kd.V_drewN | apply Kd.V_drew)); exact HO_10.out⟩, ⟨bo BK289⟩, ⟨bo BK290⟩, ⟨bo BK313⟩, ⟨bl HB⟩⟩
                            · rw [if_neg c89] at H
                              exact absurd H (by simp)
                          · rw [if_neg c88] at H
                            exact absurd H (by simp)
                        · rw [if_neg c87] at H
                          have c87b0 : (t312 == 0) = false := beq_eq_false_iff_ne.mpr c87
                          have c87b1 : (t312 != 0) = true := bne_iff_ne.mpr c87
                          have H' := Aside0.mk H
                          clear H
                          have hnb105 := NB313_289.out
                          have hnc105 := NB289_313.out
                          have hnb106 := NB313_290.out
                          have hnc106 := NB290_313.out
                          obtain ⟨hcz107_0, hcz107_1, hcz107_2, hcz107_3⟩ := ce4 BK313
                          obtain ⟨hfz107_0, hfz107_1, hfz107_2, hfz107_3⟩ := fr4 BK313
                          have hnb108 := NB290_289.out
                          have hnc108 := NB289_290.out
                          obtain ⟨hcz109_0, hcz109_1, hcz109_2, hcz109_3⟩ := ce4 BK290
                          obtain ⟨hfz109_0, hfz109_1, hfz109_2, hfz109_3⟩ := fr4 BK290
                          go_wp2
                          go_meet
                          case rel => exact ⟨_, (true), (by first | (with_reducible rfl) | rfl | (simp; done) | (simp [*]; done)), H', ⟨by have := HJ3.out; have := HJ16.out; first | omega | exact Nat.le_refl _⟩, ⟨by (with_reducible repeat (first | apply Kd.V_alloc | apply Kd.V_drewN | apply Kd.V_drew)); exact HO_7.out⟩, ⟨by (with_reducible repeat (first | apply Kd.V_alloc | apply Kd.V_drewN | apply Kd.V_drew)); exact HO_10.out⟩, ⟨bo BK289⟩, ⟨bo BK290⟩, ⟨bo BK313⟩, ⟨bl HB⟩⟩
                      · rw [if_neg c86] at H
                        have c86b0 : (t311 == t296) = false := beq_eq_false_iff_ne.mpr c86
                        have c86b1 : (t311 != t296) = true := bne_iff_ne.mpr c86
                        have H' := Aside0.mk H
                        clear H
                        have hnb110 := NB313_289.out
                        have hnc110 := NB289_313.out
                        have hnb111 := NB313_290.out
                        have hnc111 := NB290_313.out
                        obtain ⟨hcz112_0, hcz112_1, hcz112_2, hcz112_3⟩ := ce4 BK313
                        obtain ⟨hfz112_0, hfz112_1, hfz112_2, hfz112_3⟩ := fr4 BK313
                        have hnb113 := NB290_289.out
                        have hnc113 := NB289_290.out
                        obtain ⟨hcz114_0, hcz114_1, hcz114_2, hcz114_3⟩ := ce4 BK290
                        obtain ⟨hfz114_0, hfz114_1, hfz114_2, hfz114_3⟩ := fr4 BK290
                        go_wp2
                        go_meet
                        case rel => exact ⟨_, (true), (by first | (with_reducible rfl) | rfl | (simp; done) | (simp [*]; done)), H', ⟨by have := HJ3.out; have := HJ16.out; first | omega | exact Nat.le_refl _⟩, ⟨by (with_reducible repeat (first | apply Kd.V_alloc | apply Kd.V_drewN | apply Kd.V_drew)); exact HO_7.out⟩, ⟨by (with_reducible repeat (first | apply Kd.V_alloc | apply Kd.V_drewN | apply Kd.V_drew)); exact HO_10.out⟩, ⟨bo BK289⟩, ⟨bo BK290⟩, ⟨bo BK313⟩, ⟨bl HB⟩⟩
                  case rest =>
                    as_aux_lemma =>
                    clear HC70
                    try clear c1
                    try clear c2
                    try clear p2
                    try clear p3
                    try clear q3
                    try clear hx3
                    try clear c4
                    try clear c5
                    try clear c6
                    try clear p6
                    try clear c7
                    try clear c7b0
                    try clear c7b1
                    try clear c8
                    try clear c9
                    try clear c10
                    try clear c11
                    try clear c12
                    try clear c18
                    try clear c19
                    try clear c21
                    try clear c25
                    try clear c27
                    try clear c28
                    try clear c28b0
                    try clear c28b1
                    try clear c29
                    try clear c29b0
                    try clear c29b1
                    try clear p31
                    try clear q31
                    try clear hx31
                    try clear c40
                    try clear c41
                    try clear c41b0
                    try clear c41b1
                    try clear c42
                    try clear c42b0
                    try clear c42b1
                    try clear p64
                    try clear c66
                    try clear c68
                    try clear c68b0
                    try clear c68b1
                    try clear c71
                    try clear c76
                    try clear c77
                    try clear c80
                    try clear c80b0
                    try clear c81
                    try clear c82
                    try clear c84
                    try clear c86
                    try clear c86b0
                    try clear c86b1
                    try clear c87
                    try clear c87b0
                    try clear c87b1
                    try clear c88
                    try clear c88b0
                    try clear c89
                    try clear c89b0
                    try clear c90
                    try clear c90b0
                    try clear c90b1
                    try clear c92
                    try clear c93
                    try clear c95
                    try clear c99
                    try clear c100
                    try clear c102
                    try clear c105
                    try clear c106
                    try clear c108
                    try clear c110
                    try clear c111
                    try clear c113
                    try clear hcz101_0
                    try clear hcz101_1
                    try clear hcz101_2
                    try clear hcz101_3
                    try clear hcz103_0
                    try clear hcz103_1
                    try clear hcz103_2
                    try clear hcz103_3
                    try clear hcz104_0
                    try clear hcz104_1
                    try clear hcz107_0
                    try clear hcz107_1
                    try clear hcz107_2
                    try clear hcz107_3
                    try clear hcz109_0
                    try clear hcz109_1
                    try clear hcz109_2
                    try clear hcz109_3
                    try clear hcz112_0
                    try clear hcz112_1
                    try clear hcz112_2
                    try clear hcz112_3
                    try clear hcz114_0
                    try clear hcz114_1
                    try clear hcz114_2
                    try clear hcz114_3
                    try clear hcz19_0
                    try clear hcz19_1
                    try clear hcz20_0
                    try clear hcz20_1
                    try clear hcz20_2
                    try clear hcz20_3
                    try clear hcz22_0
                    try clear hcz22_1
                    try clear hcz72_0
                    try clear hcz72_1
                    try clear hcz78_0
                    try clear hcz78_1
                    try clear hcz78_2
                    try clear hcz78_3
                    try clear hcz83_0
                    try clear hcz83_1
                    try clear hcz83_2
                    try clear hcz83_3
                    try clear hcz85_0
                    try clear hcz85_1
                    try clear hcz85_2
                    try clear hcz85_3
                    try clear hcz94_0
                    try clear hcz94_1
                    try clear hcz94_2
                    try clear hcz94_3
                    try clear hcz96_0
                    try clear hcz96_1
                    try clear hcz96_2
                    try clear hcz96_3
                    try clear hcz97_0
                    try clear hcz97_1
                    try clear hfz101_0
                    try clear hfz101_1
                    try clear hfz101_2
                    try clear hfz101_3
                    try clear hfz103_0
                    try clear hfz103_1
                    try clear hfz103_2
                    try clear hfz103_3
                    try clear hfz104_0
                    try clear hfz104_1
                    try clear hfz107_0
                    try clear hfz107_1
                    try clear hfz107_2
                    try clear hfz107_3
                    try clear hfz109_0
                    try clear hfz109_1
                    try clear hfz109_2
                    try clear hfz109_3
                    try clear hfz112_0
                    try clear hfz112_1
                    try clear hfz112_2
                    try clear hfz112_3
                    try clear hfz114_0
                    try clear hfz114_1
                    try clear hfz114_2
                    try clear hfz114_3
                    try clear hfz19_0
                    try clear hfz19_1
                    try clear hfz20_0
                    try clear hfz20_1
                    try clear hfz20_2
                    try clear hfz20_3
                    try clear hfz22_0
                    try clear hfz22_1
                    try clear hfz72_0
                    try clear hfz72_1
                    try clear hfz78_0
                    try clear hfz78_1
                    try clear hfz78_2
                    try clear hfz78_3
                    try clear hfz83_0
                    try clear hfz83_1
                    try clear hfz83_2
                    try clear hfz83_3
                    try clear hfz85_0
                    try clear hfz85_1
                    try clear hfz85_2
                    try clear hfz85_3
                    try clear hfz94_0
                    try clear hfz94_1
                    try clear hfz94_2
                    try clear hfz94_3
                    try clear hfz96_0
                    try clear hfz96_1
                    try clear hfz96_2
                    try clear hfz96_3
                    try clear hfz97_0
                    try clear hfz97_1
                    try clear hx314_0
                    try clear hx314_1
                    try clear hx314_2
                    try clear hx314_3
                    try clear hx314_4
                    try clear hx314_5
                    try clear p2
                    try clear p314
                    try clear q314
                    obtain ⟨kq, x126_69, rfl, HA, HJ69, HO_7, HO_10, BK289, BK290, BK313, HB⟩ := hcut
                    cases kq with
                    | zero => exact absurd HA.out (by simp [sandglasslaw16_BooksMay.j2])
                    | succ kj69 =>
                      have H := HA.out
                      clear HA
                      simp only [sandglasslaw16_BooksMay.j2] at H
                      by_cases c115 : x126_69 = true
                      · subst c115
                        rw [if_pos rfl] at H
                        exact absurd H (by simp)
                      · replace c115 := Bool.eq_false_iff.mpr c115
                        subst c115
                        rw [if_neg (show ¬ (false = true) by decide)] at H
                        have H' := Aside0.mk H
                        clear H
                        go_wp2
                        go_meet
                        case rel => exact ⟨_, H', ⟨by have := HJ3.out; have := HJ16.out; have := HJ69.out; first | omega | exact Nat.le_refl _⟩, ⟨by (with_reducible repeat (first | apply Kd.V_alloc | apply Kd.V_drewN | apply Kd.V_drew)); exact Kd.V_mono HO_7.out (fun _ hk => ⟨hk.1, hk.2.1⟩)⟩, ⟨by (with_reducible repeat (first | apply Kd.V_alloc | apply Kd.V_drewN | apply Kd.V_drew)); exact Kd.V_mono HO_10.out (fun _ hk => ⟨hk.1, hk.2.1⟩)⟩, ⟨bo BK289⟩, ⟨bo BK290⟩, ⟨bl HB⟩⟩
                · rw [if_neg c68] at H
                  have c68b0 : (t297 == 0) = false := beq_eq_false_iff_ne.mpr c68
                  have c68b1 : (t297 != 0) = true := bne_iff_ne.mpr c68
                  (first | rw [c68b0] | (simp only [i64_w, i32_w]; rw [c68b0]) | skip)
                  have H' := Aside0.mk H
                  clear H
                  go_wp2
                  go_meet
                  case rel => exact ⟨_, H', ⟨by have := HJ3.out; have := HJ16.out; first | omega | exact Nat.le_refl _⟩, ⟨by (with_reducible repeat (first | apply Kd.V_alloc | apply Kd.V_drewN | apply Kd.V_drew)); exact HO_7.out⟩, ⟨by (with_reducible repeat (first | apply Kd.V_alloc | apply Kd.V_drewN | apply Kd.V_drew)); exact HO_10.out⟩, ⟨bo BK289⟩, ⟨bo BK290⟩, ⟨bl HB⟩⟩
              case rest =>
                as_aux_lemma =>
                clear HC67
                try clear c1
                try clear c2
                try clear p2
                try clear p3
                try clear q3
                try clear hx3
                try clear c4
                try clear c5
                try clear c6
                try clear p6
                try clear c7
                try clear c7b0
                try clear c7b1
                try clear c8
                try clear c9
                try clear c10
                try clear c11
                try clear c12
                try clear c18
                try clear c19
                try clear c21
                try clear c25
                try clear c27
                try clear c28
                try clear c28b0
                try clear c28b1
                try clear c29
                try clear c29b0
                try clear c29b1
                try clear p31
                try clear q31
                try clear hx31
                try clear c40
                try clear c41
                try clear c41b0
                try clear c41b1
                try clear c42
                try clear c42b0
                try clear c42b1
                try clear p64
                try clear c66
                try clear c68
                try clear c68b0
                try clear c68b1
                try clear c71
                try clear c76
                try clear c77
                try clear c80
                try clear c80b0
                try clear c81
                try clear c82
                try clear c84
                try clear c86
                try clear c86b0
                try clear c86b1
                try clear c87
                try clear c87b0
                try clear c87b1
                try clear c88
                try clear c88b0
                try clear c89
                try clear c89b0
                try clear c90
                try clear c90b0
                try clear c90b1
                try clear c92
                try clear c93
                try clear c95
                try clear c99
                try clear c100
                try clear c102
                try clear c105
                try clear c106
                try clear c108
                try clear c110
                try clear c111
                try clear c113
                try clear c115
                try clear hcz101_0
                try clear hcz101_1
                try clear hcz101_2
                try clear hcz101_3
                try clear hcz103_0
                try clear hcz103_1
                try clear hcz103_2
                try clear hcz103_3
                try clear hcz104_0
                try clear hcz104_1
                try clear hcz107_0
                try clear hcz107_1
                try clear hcz107_2
                try clear hcz107_3
                try clear hcz109_0
                try clear hcz109_1
                try clear hcz109_2
                try clear hcz109_3
                try clear hcz112_0
                try clear hcz112_1
                try clear hcz112_2
                try clear hcz112_3
                try clear hcz114_0
                try clear hcz114_1
                try clear hcz114_2
                try clear hcz114_3
                try clear hcz19_0
                try clear hcz19_1
                try clear hcz20_0
                try clear hcz20_1
                try clear hcz20_2
                try clear hcz20_3
                try clear hcz22_0
                try clear hcz22_1
                try clear hcz72_0
                try clear hcz72_1
                try clear hcz78_0
                try clear hcz78_1
                try clear hcz78_2
                try clear hcz78_3
                try clear hcz83_0
                try clear hcz83_1
                try clear hcz83_2
                try clear hcz83_3
                try clear hcz85_0
                try clear hcz85_1
                try clear hcz85_2
                try clear hcz85_3
                try clear hcz94_0
                try clear hcz94_1
                try clear hcz94_2
                try clear hcz94_3
                try clear hcz96_0
                try clear hcz96_1
                try clear hcz96_2
                try clear hcz96_3
                try clear hcz97_0
                try clear hcz97_1
                try clear hfz101_0
                try clear hfz101_1
                try clear hfz101_2
                try clear hfz101_3
                try clear hfz103_0
                try clear hfz103_1
                try clear hfz103_2
                try clear hfz103_3
                try clear hfz104_0
                try clear hfz104_1
                try clear hfz107_0
                try clear hfz107_1
                try clear hfz107_2
                try clear hfz107_3
                try clear hfz109_0
                try clear hfz109_1
                try clear hfz109_2
                try clear hfz109_3
                try clear hfz112_0
                try clear hfz112_1
                try clear hfz112_2
                try clear hfz112_3
                try clear hfz114_0
                try clear hfz114_1
                try clear hfz114_2
                try clear hfz114_3
                try clear hfz19_0
                try clear hfz19_1
                try clear hfz20_0
                try clear hfz20_1
                try clear hfz20_2
                try clear hfz20_3
                try clear hfz22_0
                try clear hfz22_1
                try clear hfz72_0
                try clear hfz72_1
                try clear hfz78_0
                try clear hfz78_1
                try clear hfz78_2
                try clear hfz78_3
                try clear hfz83_0
                try clear hfz83_1
                try clear hfz83_2
                try clear hfz83_3
                try clear hfz85_0
                try clear hfz85_1
                try clear hfz85_2
                try clear hfz85_3
                try clear hfz94_0
                try clear hfz94_1
                try clear hfz94_2
                try clear hfz94_3
                try clear hfz96_0
                try clear hfz96_1
                try clear hfz96_2
                try clear hfz96_3
                try clear hfz97_0
                try clear hfz97_1
                try clear hx314_0
                try clear hx314_1
                try clear hx314_2
                try clear hx314_3
                try clear hx314_4
                try clear hx314_5
                try clear p2
                try clear p3
                try clear p31
                try clear p314
                try clear p6
                try clear p64
                try clear q3
                try clear q31
                try clear q314
                obtain ⟨kq, HA, HJ66, HO_7, HO_10, BK289, BK290, HB⟩ := hcut
                cases kq with
                | zero => exact absurd HA.out (by simp [sandglasslaw16_BooksMay.j3])
                | succ kj66 =>
                  have H := HA.out
                  clear HA
                  simp only [sandglasslaw16_BooksMay.j3] at H
                  have HC116 := Aside0.mk H
                  clear H
                  go_upto_if 128 with (fail)
                  go_cut [] (fun wc => ∃ (kq : Nat), Aside0 (sandglasslaw16_BooksMay.j4 kq l0 t293 t298 a1_0 a1_1 = some r) ∧ Aside0 (kq ≤ kj66) ∧ Aside0 (Kd.V k43 43 wc w.heap.size (fun k_ => k_ ≠ gb289 ∧ k_ ≠ gb290) v294 t293) ∧ Aside0 (Kd.V k43 43 wc w.heap.size (fun k_ => k_ ≠ gb289 ∧ k_ ≠ gb290) v299 t298) ∧ Aside0 (wc.heap[gb289]? = some (.cells #[.int .i64 a1_0, .int .i64 a1_1] 41 (0, 0))) ∧ Aside0 (wc.heap[gb290]? = some (.cells #[.int .i64 a2_0, .int .i64 a2_1, .int .i64 a2_2, .int .i64 a2_3] 25 (0, 0))) ∧ Aside0 (Below w.heap.size w wc))
                  case first =>
                    as_aux_lemma =>
                    have H := HC116.out
                    clear HC116
                    by_cases c117 : t301 = 0
                    · rw [if_pos c117] at H
                      have c117b0 : (t301 == 0) = true := beq_iff_eq.mpr c117
                      have c117b1 : (t301 != 0) = false := bne_eq_false_iff_eq.mpr c117
                      clear c117
                      (first | rw [c117b0] | (simp only [i64_w, i32_w]; rw [c117b0]) | skip)
                      replace H := Option.bind_eq_some_iff.mp H
                      obtain ⟨⟨t316, t317, t318, t319, t320, t321⟩, A1180, H⟩ := H
                      have A118 := Aside0.mk A1180
                      clear A1180
                      by_cases c119 : t321 = 5
                      · rw [if_pos c119] at H
                        have c119b0 : (t321 == 5) = true := beq_iff_eq.mpr c119
                        have c119b1 : (t321 != 5) = false := bne_eq_false_iff_eq.mpr c119
                        clear c119
                        have H' := Aside0.mk H
                        clear H
                        have hnb120 := NB289_290.out
                        have hnc120 := NB290_289.out
                        obtain ⟨hcz121_0, hcz121_1⟩ := ce2 BK289
                        obtain ⟨hfz121_0, hfz121_1⟩ := fr2 BK289
                        obtain ⟨Ao122, co122, eo122⟩ := Kd.V_slice HO_10.out
                        subst eo122
                        go_wp2_with (first | ((with_reducible refine gate_callee (f := 9) rfl ?_); refine goesL_ (some 133) rfl rfl Try.func9 (by kernel_rfl) rfl #[.slice Ao122 t298.length co122, .int .i64 a1_0] rfl (by (try simp only [List.map_toArray, List.map_cons, List.map_nil]); first | done | rfl | (simp only [List.length_drop, List.length_take]; rfl)) ?_; (with_reducible refine (books_Get.calls kj66 _ _ t298 a1_0 t316 t317 t318 t319 t320 t321 _ ?side1 ?side2 A118.out).mono ?_); (case side1 => repeat (first | exact (Kd.V_reads' HO_10.out).2.2 | (with_reducible refine Kd.C_alloc ?_ _) | (with_reducible refine Kd.C_drewN ?_ _) | (with_reducible refine Kd.C_drew ?_))); (case side2 => exact (Kd.V_reads' HO_10.out).2.1); rintro e w123 ⟨rfl, hb⟩; refine ⟨_, rfl, ?_⟩; replace HO_7 := vb HO_7 hb; replace HO_10 := vb HO_10 hb; replace BK289 := Aside0.mk (blk_below (bo BK289) hb); replace BK290 := Aside0.mk (blk_below (bo BK290) hb); replace HB := Aside0.mk (below_step (bl HB) hb); (try clear hb); (try clear hb2); (try clear hk); (try clear hi)) | ((with_reducible refine gate_dst (N := 15) rfl ?_); (try (refine gate_guard (by rfl) ?_; dsimp only)); refine box_event ?hg (N := 15) ?hd (cs := #[.int .i64 0, .int .i64 0, .int .i64 0, .int .i64 0]) (t := 25) ?hr ?_; (case hd => rfl); (case hg => rfl); (case hr => first | (go_simp; done) | (go_simp; rfl)); intro gb322 hg w124 hbox hb; have BK322 := Aside0.mk (hbox); have GW322 := Aside0.mk ((by rw [hg]; exact (below_size (bl HB)) : w.heap.size ≤ gb322)); have GE322 := Aside0.mk ((by rw [hg]; exact (below_size (bl HB)) : w.heap.size ≤ gb322)); have NB289_322 := nb BK289 hg; have NB322_289 := bn BK289 hg; have NB290_322 := nb BK290 hg; have NB322_290 := bn BK290 hg; replace HO_7 := ve HO_7 hg hb; replace HO_10 := ve HO_10 hg hb; replace BK289 := Aside0.mk (blk_below (bo BK289) hb); replace BK290 := Aside0.mk (blk_below (bo BK290) hb); replace HB := Aside0.mk (below_step (bl HB) hb); clear hb hbox hg; have hnb125 := NB322_289.out; have hnc125 := NB289_322.out; have hnb126 := NB322_290.out; have hnc126 := NB290_322.out; obtain ⟨hcz127_0, hcz127_1, hcz127_2, hcz127_3⟩ := ce4 BK322; obtain ⟨hfz127_0, hfz127_1, hfz127_2, hfz127_3⟩ := fr4 BK322) | ((with_reducible refine gate_store (t := 25) (p := 15) rfl ?_); refine store_event (t := 25) (p := 15) (v := ?vo_w128) (w1 := ((((w124.setCell ⟨gb322, 0, none⟩ (.int .i64 t316)).setCell ⟨gb322, 1, none⟩ (.int .i64 t317)).setCell ⟨gb322, 2, none⟩ (.int .i64 t318)).setCell ⟨gb322, 3, none⟩ (.int .i64 t319))) ?hg ?ho ?hn ?hr ?_; (case ho => rfl); (case hg => rfl); (case hn => rfl); (case hr => first | (go_simp; done) | (go_simp; rfl)); intro w128 hw; replace HO_7 : Aside0 (Kd.V k43 43 w128 w.heap.size (fun k_ => k_ ≠ gb289 ∧ k_ ≠ gb290 ∧ k_ ≠ gb322) v294 t293) := ⟨(by rw [hw]; exact (by (with_reducible repeat (first | apply Kd.V_alloc | apply Kd.V_drewN | apply Kd.V_drew)); exact Kd.V_mono (Kd.V_far (p := ⟨gb322, 3, none⟩) (Kd.V_far (p := ⟨gb322, 2, none⟩) (Kd.V_far (p := ⟨gb322, 1, none⟩) (Kd.V_far (p := ⟨gb322, 0, none⟩) (Kd.V_mono HO_7.out (fun k_ hk => (⟨hk, hk.2⟩ : _ ∧ k_ ≠ gb322))) (fun _ hk => hk.2) (.int .i64 t316)) (fun _ hk => hk.2) (.int .i64 t317)) (fun _ hk => hk.2) (.int .i64 t318)) (fun _ hk => hk.2) (.int .i64 t319)) (fun _ hk => ⟨hk.1.1.1, ⟨hk.1.1.2, hk.1.2⟩⟩)))⟩; replace HO_10 : Aside0 (Kd.V k43 43 w128 w.heap.size (fun k_ => k_ ≠ gb289 ∧ k_ ≠ gb290 ∧ k_ ≠ gb322) (.slice Ao122 t298.length co122) t298) := ⟨(by rw [hw]; exact (by (with_reducible repeat (first | apply Kd.V_alloc | apply Kd.V_drewN | apply Kd.V_drew)); exact Kd.V_mono (Kd.V_far (p := ⟨gb322, 3, none⟩) (Kd.V_far (p := ⟨gb322, 2, none⟩) (Kd.V_far (p := ⟨gb322, 1, none⟩) (Kd.V_far (p := ⟨gb322, 0, none⟩) (Kd.V_mono HO_10.out (fun k_ hk => (⟨hk, hk.2⟩ : _ ∧ k_ ≠ gb322))) (fun _ hk => hk.2) (.int .i64 t316)) (fun _ hk => hk.2) (.int .i64 t317)) (fun _ hk => hk.2) (.int .i64 t318)) (fun _ hk => hk.2) (.int .i64 t319)) (fun _ hk => ⟨hk.1.1.1, ⟨hk.1.1.2, hk.1.2⟩⟩)))⟩; replace BK289 : Aside0 (w128.heap[gb289]? = some (.cells #[.int .i64 a1_0, .int .i64 a1_1] 41 (0, 0))) := ⟨(by rw [hw]; exact (by (with_reducible repeat (first | refine blk_drewN ?_ _ | refine blk_drew ?_ | refine blk_alloc ?_ _)); refine blk_far ?_ NB289_322.out _; (with_reducible repeat (first | refine blk_drewN ?_ _ | refine blk_drew ?_ | refine blk_alloc ?_ _)); refine blk_far ?_ NB289_322.out _; (with_reducible repeat (first | refine blk_drewN ?_ _ | refine blk_drew ?_ | refine blk_alloc ?_ _)); refine blk_far ?_ NB289_322.out _; (with_reducible repeat (first | refine blk_drewN ?_ _ | refine blk_drew ?_ | refine blk_alloc ?_ _)); refine blk_far ?_ NB289_322.out _; (with_reducible repeat (first | refine blk_drewN ?_ _ | refine blk_drew ?_ | refine blk_alloc ?_ _)); exact BK289.out))⟩; replace BK290 : Aside0 (w128.heap[gb290]? = some (.cells #[.int .i64 a2_0, .int .i64 a2_1, .int .i64 a2_2, .int .i64 a2_3] 25 (0, 0))) := ⟨(by rw [hw]; exact (by (with_reducible repeat (first | refine blk_drewN ?_ _ | refine blk_drew ?_ | refine blk_alloc ?_ _)); refine blk_far ?_ NB290_322.out _; (with_reducible repeat (first | refine blk_drewN ?_ _ | refine blk_drew ?_ | refine blk_alloc ?_ _)); refine blk_far ?_ NB290_322.out _; (with_reducible repeat (first | refine blk_drewN ?_ _ | refine blk_drew ?_ | refine blk_alloc ?_ _)); refine blk_far ?_ NB290_322.out _; (with_reducible repeat (first | refine blk_drewN ?_ _ | refine blk_drew ?_ | refine blk_alloc ?_ _)); refine blk_far ?_ NB290_322.out _; (with_reducible repeat (first | refine blk_drewN ?_ _ | refine blk_drew ?_ | refine blk_alloc ?_ _)); exact BK290.out))⟩; replace BK322 : Aside0 (w128.heap[gb322]? = some (.cells #[.int .i64 t316, .int .i64 t317, .int .i64 t318, .int .i64 t319] 25 (0, 0))) := ⟨(by rw [hw]; exact (by (with_reducible repeat (first | refine blk_drewN ?_ _ | refine blk_drew ?_ | refine blk_alloc ?_ _)); refine blk_put (cs := #[.int .i64 t316, .int .i64 t317, .int .i64 t318, .int .i64 0]) ?_ 3 _ rfl; (with_reducible repeat (first | refine blk_drewN ?_ _ | refine blk_drew ?_ | refine blk_alloc ?_ _)); refine blk_put (cs := #[.int .i64 t316, .int .i64 t317, .int .i64 0, .int .i64 0]) ?_ 2 _ rfl; (with_reducible repeat (first | refine blk_drewN ?_ _ | refine blk_drew ?_ | refine blk_alloc ?_ _)); refine blk_put (cs := #[.int .i64 t316, .int .i64 0, .int .i64 0, .int .i64 0]) ?_ 1 _ rfl; (with_reducible repeat (first | refine blk_drewN ?_ _ | refine blk_drew ?_ | refine blk_alloc ?_ _)); refine blk_put (cs := #[.int .i64 0, .int .i64 0, .int .i64 0, .int .i64 0]) ?_ 0 _ rfl; (with_reducible repeat (first | refine blk_drewN ?_ _ | refine blk_drew ?_ | refine blk_alloc ?_ _)); exact BK322.out))⟩; replace HB : Aside0 (Below w.heap.size w w128) := ⟨(by rw [hw]; exact (bl HB))⟩; clear hw))
                        go_meet
                        case rel => exact ⟨_, H', ⟨by have := HJ3.out; have := HJ16.out; have := HJ66.out; first | omega | exact Nat.le_refl _⟩, ⟨by (with_reducible repeat (first | apply Kd.V_alloc | apply Kd.V_drewN | apply Kd.V_drew)); exact Kd.V_mono HO_7.out (fun _ hk => ⟨hk.1, hk.2.1⟩)⟩, ⟨by (with_reducible repeat (first | apply Kd.V_alloc | apply Kd.V_drewN | apply Kd.V_drew)); exact Kd.V_mono HO_10.out (fun _ hk => ⟨hk.1, hk.2.1⟩)⟩, ⟨bo BK289⟩, ⟨bo BK290⟩, ⟨bl HB⟩⟩
                      · rw [if_neg c119] at H
                        exact absurd H (by simp)
                    · rw [if_neg c117] at H
                      have c117b0 : (t301 == 0) = false := beq_eq_false_iff_ne.mpr c117
                      have c117b1 : (t301 != 0) = true := bne_iff_ne.mpr c117
                      (first | rw [c117b0] | (simp only [i64_w, i32_w]; rw [c117b0]) | skip)
                      have H' := Aside0.mk H
                      clear H
                      go_wp2
                      go_meet
                      case rel => exact ⟨_, H', ⟨by have := HJ3.out; have := HJ16.out; have := HJ66.out; first | omega | exact Nat.le_refl _⟩, ⟨by (with_reducible repeat (first | apply Kd.V_alloc | apply Kd.V_drewN | apply Kd.V_drew)); exact HO_7.out⟩, ⟨by (with_reducible repeat (first | apply Kd.V_alloc | apply Kd.V_drewN | apply Kd.V_drew)); exact HO_10.out⟩, ⟨bo BK289⟩, ⟨bo BK290⟩, ⟨bl HB⟩⟩
                  case rest =>
                    as_aux_lemma =>
                    clear HC116
                    try clear c1
                    try clear c2
                    try clear p2
                    try clear p3
                    try clear q3
                    try clear hx3
                    try clear c4
                    try clear c5
                    try clear c6
                    try clear p6
                    try clear c7
                    try clear c7b0
                    try clear c7b1
                    try clear c8
                    try clear c9
                    try clear c10
                    try clear c11
                    try clear c12
                    try clear c18
                    try clear c19
                    try clear c21
                    try clear c25
                    try clear c27
                    try clear c28
                    try clear c28b0
                    try clear c28b1
                    try clear c29
                    try clear c29b0
                    try clear c29b1
                    try clear p31
                    try clear q31
                    try clear hx31
                    try clear c40
                    try clear c41
                    try clear c41b0
                    try clear c41b1
                    try clear c42
                    try clear c42b0
                    try clear c42b1
                    try clear p64
                    try clear c66
                    try clear c68
                    try clear c68b0
                    try clear c68b1
                    try clear c71
                    try clear c76
                    try clear c77
                    try clear c80
                    try clear c80b0
                    try clear c81
                    try clear c82
                    try clear c84
                    try clear c86
                    try clear c86b0
                    try clear c86b1
                    try clear c87
                    try clear c87b0
                    try clear c87b1
                    try clear c88
                    try clear c88b0
                    try clear c89
                    try clear c89b0
                    try clear c90
                    try clear c90b0
                    try clear c90b1
                    try clear c92
                    try clear c93
                    try clear c95
                    try clear c99
                    try clear c100
                    try clear c102
                    try clear c105
                    try clear c106
                    try clear c108
                    try clear c110
                    try clear c111
                    try clear c113
                    try clear c115
                    try clear c117
                    try clear c117b0
                    try clear c117b1
                    try clear c119
                    try clear c119b0
                    try clear c119b1
                    try clear c120
                    try clear c125
                    try clear c126
                    try clear hcz101_0
                    try clear hcz101_1
                    try clear hcz101_2
                    try clear hcz101_3
                    try clear hcz103_0
                    try clear hcz103_1
                    try clear hcz103_2
                    try clear hcz103_3
                    try clear hcz104_0
                    try clear hcz104_1
                    try clear hcz107_0
                    try clear hcz107_1
                    try clear hcz107_2
                    try clear hcz107_3
                    try clear hcz109_0
                    try clear hcz109_1
                    try clear hcz109_2
                    try clear hcz109_3
                    try clear hcz112_0
                    try clear hcz112_1
                    try clear hcz112_2
                    try clear hcz112_3
                    try clear hcz114_0
                    try clear hcz114_1
                    try clear hcz114_2
                    try clear hcz114_3
                    try clear hcz121_0
                    try clear hcz121_1
                    try clear hcz127_0
                    try clear hcz127_1
                    try clear hcz127_2
                    try clear hcz127_3
                    try clear hcz19_0
                    try clear hcz19_1
                    try clear hcz20_0
                    try clear hcz20_1
                    try clear hcz20_2
                    try clear hcz20_3
                    try clear hcz22_0
                    try clear hcz22_1
                    try clear hcz72_0
                    try clear hcz72_1
                    try clear hcz78_0
                    try clear hcz78_1
                    try clear hcz78_2
                    try clear hcz78_3
                    try clear hcz83_0
                    try clear hcz83_1
                    try clear hcz83_2
                    try clear hcz83_3
                    try clear hcz85_0
                    try clear hcz85_1
                    try clear hcz85_2
                    try clear hcz85_3
                    try clear hcz94_0
                    try clear hcz94_1
                    try clear hcz94_2
                    try clear hcz94_3
                    try clear hcz96_0
                    try clear hcz96_1
                    try clear hcz96_2
                    try clear hcz96_3
                    try clear hcz97_0
                    try clear hcz97_1
                    try clear hfz101_0
                    try clear hfz101_1
                    try clear hfz101_2
                    try clear hfz101_3
                    try clear hfz103_0
                    try clear hfz103_1
                    try clear hfz103_2
                    try clear hfz103_3
                    try clear hfz104_0
                    try clear hfz104_1
                    try clear hfz107_0
                    try clear hfz107_1
                    try clear hfz107_2
                    try clear hfz107_3
                    try clear hfz109_0
                    try clear hfz109_1
                    try clear hfz109_2
                    try clear hfz109_3
                    try clear hfz112_0
                    try clear hfz112_1
                    try clear hfz112_2
                    try clear hfz112_3
                    try clear hfz114_0
                    try clear hfz114_1
                    try clear hfz114_2
                    try clear hfz114_3
                    try clear hfz121_0
                    try clear hfz121_1
                    try clear hfz127_0
                    try clear hfz127_1
                    try clear hfz127_2
                    try clear hfz127_3
                    try clear hfz19_0
                    try clear hfz19_1
                    try clear hfz20_0
                    try clear hfz20_1
                    try clear hfz20_2
                    try clear hfz20_3
                    try clear hfz22_0
                    try clear hfz22_1
                    try clear hfz72_0
                    try clear hfz72_1
                    try clear hfz78_0
                    try clear hfz78_1
                    try clear hfz78_2
                    try clear hfz78_3
                    try clear hfz83_0
                    try clear hfz83_1
                    try clear hfz83_2
                    try clear hfz83_3
                    try clear hfz85_0
                    try clear hfz85_1
                    try clear hfz85_2
                    try clear hfz85_3
                    try clear hfz94_0
                    try clear hfz94_1
                    try clear hfz94_2
                    try clear hfz94_3
                    try clear hfz96_0
                    try clear hfz96_1
                    try clear hfz96_2
                    try clear hfz96_3
                    try clear hfz97_0
                    try clear hfz97_1
                    try clear hx314_0
                    try clear hx314_1
                    try clear hx314_2
                    try clear hx314_3
                    try clear hx314_4
                    try clear hx314_5
                    try clear p2
                    try clear p3
                    try clear p31
                    try clear p314
                    try clear p6
                    try clear p64
                    try clear q3
                    try clear q31
                    try clear q314
                    obtain ⟨kq, HA, HJ115, HO_7, HO_10, BK289, BK290, HB⟩ := hcut
                    cases kq with
                    | zero => exact absurd HA.out (by simp [sandglasslaw16_BooksMay.j4])
                    | succ kj115 =>
                      have H := HA.out
                      clear HA
                      simp only [sandglasslaw16_BooksMay.j4] at H
                      by_cases c129 : a1_0 = a1_1
                      · rw [if_pos c129] at H
                        have c129b0 : (a1_0 == a1_1) = true := beq_iff_eq.mpr c129
                        have c129b1 : (a1_0 != a1_1) = false := bne_eq_false_iff_eq.mpr c129
                        clear c129
                        replace H := Option.bind_eq_some_iff.mp H
                        obtain ⟨t323, A1300, H⟩ := H
                        have A130 := Aside0.mk A1300
                        clear A1300
                        obtain rfl := Option.some.inj H
                        have hnb131 := NB289_290.out
                        have hnc131 := NB290_289.out
                        obtain ⟨hcz132_0, hcz132_1⟩ := ce2 BK289
                        obtain ⟨hfz132_0, hfz132_1⟩ := fr2 BK289
                        go_wp2_with (first | ((with_reducible refine gate_callee (f := 8) rfl ?_); refine goesL_ (some 144) rfl rfl Try.func8 (by kernel_rfl) rfl #[] rfl (by (try simp only [List.map_toArray, List.map_cons, List.map_nil]); first | done | rfl | (simp only [List.length_drop, List.length_take]; rfl)) ?_; (with_reducible refine (sandglasslaw16_live.calls kj115  t323 _ A130.out).mono ?_); rintro e w133 ⟨rfl, hb⟩; refine ⟨_, rfl, ?_⟩; replace HO_7 := vb HO_7 hb; replace HO_10 := vb HO_10 hb; replace BK289 := Aside0.mk (blk_below (bo BK289) hb); replace BK290 := Aside0.mk (blk_below (bo BK290) hb); replace HB := Aside0.mk (below_step (bl HB) hb); (try clear hb); (try clear hb2); (try clear hk); (try clear hi)))
                        go_ret
                        exact ⟨by first | (with_reducible rfl) | rfl | (simp [errW_none, errW_some] <;> rfl) | (simp [*, errW_none, errW_some] <;> rfl), bl HB⟩
                      · rw [if_neg c129] at H
                        have c129b0 : (a1_0 == a1_1) = false := beq_eq_false_iff_ne.mpr c129
                        have c129b1 : (a1_0 != a1_1) = true := bne_iff_ne.mpr c129
                        replace H := Option.bind_eq_some_iff.mp H
                        obtain ⟨⟨t324, t325, t326, t327, t328, t329⟩, A1340, H⟩ := H
                        have A134 := Aside0.mk A1340
                        clear A1340
                        replace H := Option.bind_eq_some_iff.mp H
                        obtain ⟨⟨t331, t332, t333, t334, t335, t336⟩, A1350, H⟩ := H
                        have A135 := Aside0.mk A1350
                        clear A1350
                        replace H := Option.bind_eq_some_iff.mp H
                        obtain ⟨⟨t338, t339, t340, t341, t342, t343⟩, A1360, H⟩ := H
                        have A136 := Aside0.mk A1360
                        clear A1360
                        by_cases c137 : (t324 == t331 && (t325 == t332 && (t326 == t333 && (t327 == t334)))) = true
                        · rw [if_pos c137] at H
                          have c137b0 : (t324 == t331 && (t325 == t332 && (t326 == t333 && (t327 == t334)))) = true := c137
                          (try (have c137b1 : decide (t324 = t331 && (t325 == t332 && (t326 == t333 && (t327 == t334)))) = true := by simpa using c137))
                          (try (have c137b2 : (t324 == t331 && (t325 == t332 && (t326 == t333 && (t327 == t334)))) = true := by simpa using c137))
                          clear c137
                          by_cases c138 : t328 = t335
                          · rw [if_pos c138] at H
                            have c138b0 : (t328 == t335) = true := beq_iff_eq.mpr c138
                            have c138b1 : (t328 != t335) = false := bne_eq_false_iff_eq.mpr c138
                            clear c138
                            by_cases c139 : t329 = t336
                            · rw [if_pos c139] at H
                              have c139b0 : (t329 == t336) = true := beq_iff_eq.mpr c139
                              have c139b1 : (t329 != t336) = false := bne_eq_false_iff_eq.mpr c139
                              clear c139
                              by_cases c140 : (t324 == t338 && (t325 == t339 && (t326 == t340 && (t327 == t341)))) = true
                              · rw [if_pos c140] at H
                                have c140b0 : (t324 == t338 && (t325 == t339 && (t326 == t340 && (t327 == t341)))) = true := c140
                                (try (have c140b1 : decide (t324 = t338 && (t325 == t339 && (t326 == t340 && (t327 == t341)))) = true := by simpa using c140))
                                (try (have c140b2 : (t324 == t338 && (t325 == t339 && (t326 == t340 && (t327 == t341)))) = true := by simpa using c140))
                                clear c140
                                by_cases c141 : t328 = t342
                                · rw [if_pos c141] at H
                                  have c141b0 : (t328 == t342) = true := beq_iff_eq.mpr c141
                                  have c141b1 : (t328 != t342) = false := bne_eq_false_iff_eq.mpr c141
                                  clear c141
                                  by_cases c142 : t329 = t343
                                  · rw [if_pos c142] at H
                                    have c142b0 : (t329 == t343) = true := beq_iff_eq.mpr c142
                                    have c142b1 : (t329 != t343) = false := bne_eq_false_iff_eq.mpr c142
                                    clear c142
                                    replace H := Option.bind_eq_some_iff.mp H
                                    obtain ⟨t345, A1430, H⟩ := H
                                    have A143 := Aside0.mk A1430
                                    clear A1430
                                    obtain rfl := Option.some.inj H
                                    have hnb144 := NB289_290.out
                                    have hnc144 := NB290_289.out
                                    obtain ⟨hcz145_0, hcz145_1⟩ := ce2 BK289
                                    obtain ⟨hfz145_0, hfz145_1⟩ := fr2 BK289
                                    go_wp2_with (first | ((with_reducible refine gate_callee (f := 9) rfl ?_); refine goesL_ (some 149) rfl rfl Try.func9 (by kernel_rfl) rfl #[.slice A0 l0.length c0, .int .i64 a1_1] rfl (by (try simp only [List.map_toArray, List.map_cons, List.map_nil]); first | done | rfl | (simp only [List.length_drop, List.length_take]; rfl)) ?_; (with_reducible refine (books_Get.calls kj115 _ _ l0 a1_1 t324 t325 t326 t327 t328 t329 _ ?side1 ?side2 A134.out).mono ?_); (case side1 => repeat (first | exact (Kd.C_below HR0.out HB.out) | (with_reducible refine Kd.C_alloc ?_ _) | (with_reducible refine Kd.C_drewN ?_ _) | (with_reducible refine Kd.C_drew ?_))); (case side2 => exact HC0.out); rintro e w146 ⟨rfl, hb⟩; refine ⟨_, rfl, ?_⟩; replace HO_7 := vb HO_7 hb; replace HO_10 := vb HO_10 hb; replace BK289 := Aside0.mk (blk_below (bo BK289) hb); replace BK290 := Aside0.mk (blk_below (bo BK290) hb); replace HB := Aside0.mk (below_step (bl HB) hb); (try clear hb); (try clear hb2); (try clear hk); (try clear hi)) | ((with_reducible refine gate_dst (N := 18) rfl ?_); (try (refine gate_guard (by rfl) ?_; dsimp only)); refine box_event ?hg (N := 18) ?hd (cs := #[.int .i64 0, .int .i64 0, .int .i64 0, .int .i64 0]) (t := 25) ?hr ?_; (case hd => rfl); (case hg => rfl); (case hr => first | (go_simp; done) | (go_simp; rfl)); intro gb330 hg w147 hbox hb; have BK330 := Aside0.mk (hbox); have GW330 := Aside0.mk ((by rw [hg]; exact (below_size (bl HB)) : w.heap.size ≤ gb330)); have GE330 := Aside0.mk ((by rw [hg]; exact (below_size (bl HB)) : w.heap.size ≤ gb330)); have NB289_330 := nb BK289 hg; have NB330_289 := bn BK289 hg; have NB290_330 := nb BK290 hg; have NB330_290 := bn BK290 hg; replace HO_7 := ve HO_7 hg hb; replace HO_10 := ve HO_10 hg hb; replace BK289 := Aside0.mk (blk_below (bo BK289) hb); replace BK290 := Aside0.mk (blk_below (bo BK290) hb); replace HB := Aside0.mk (below_step (bl HB) hb); clear hb hbox hg; have hnb148 := NB330_289.out; have hnc148 := NB289_330.out; have hnb149 := NB330_290.out; have hnc149 := NB290_330.out; obtain ⟨hcz150_0, hcz150_1, hcz150_2, hcz150_3⟩ := ce4 BK330; obtain ⟨hfz150_0, hfz150_1, hfz150_2, hfz150_3⟩ := fr4 BK330) | ((with_reducible refine gate_store (t := 25) (p := 18) rfl ?_); refine store_event (t := 25) (p := 18) (v := ?vo_w151) (w1 := ((((w147.setCell ⟨gb330, 0, none⟩ (.int .i64 t324)).setCell ⟨gb330, 1, none⟩ (.int .i64 t325)).setCell ⟨gb330, 2, none⟩ (.int .i64 t326)).setCell ⟨gb330, 3, none⟩ (.int .i64 t327))) ?hg ?ho ?hn ?hr ?_; (case ho => rfl); (case hg => rfl); (case hn => rfl); (case hr => first | (go_simp; done) | (go_simp; rfl)); intro w151 hw; replace HO_7 : Aside0 (Kd.V k43 43 w151 w.heap.size (fun k_ => k_ ≠ gb289 ∧ k_ ≠ gb290 ∧ k_ ≠ gb330) v294 t293) := ⟨(by rw [hw]; exact (by (with_reducible repeat (first | apply Kd.V_alloc | apply Kd.V_drewN | apply Kd.V_drew)); exact Kd.V_mono (Kd.V_far (p := ⟨gb330, 3, none⟩) (Kd.V_far (p := ⟨gb330, 2, none⟩) (Kd.V_far (p := ⟨gb330, 1, none⟩) (Kd.V_far (p := ⟨gb330, 0, none⟩) (Kd.V_mono HO_7.out (fun k_ hk => (⟨hk, hk.2⟩ : _ ∧ k_ ≠ gb330))) (fun _ hk => hk.2) (.int .i64 t324)) (fun _ hk => hk.2) (.int .i64 t325)) (fun _ hk => hk.2) (.int .i64 t326)) (fun _ hk => hk.2) (.int .i64 t327)) (fun _ hk => ⟨hk.1.1.1, ⟨hk.1.1.2, hk.1.2⟩⟩)))⟩; replace HO_10 : Aside0 (Kd.V k43 43 w151 w.heap.size (fun k_ => k_ ≠ gb289 ∧ k_ ≠ gb290 ∧ k_ ≠ gb330) v299 t298) := ⟨(by rw [hw]; exact (by (with_reducible repeat (first | apply Kd.V_alloc | apply Kd.V_drewN | apply Kd.V_drew)); exact Kd.V_mono (Kd.V_far (p := ⟨gb330, 3, none⟩) (Kd.V_far (p := ⟨gb330, 2, none⟩) (Kd.V_far (p := ⟨gb330, 1, none⟩) (Kd.V_far (p := ⟨gb330, 0, none⟩) (Kd.V_mono HO_10.out (fun k_ hk => (⟨hk, hk.2⟩ : _ ∧ k_ ≠ gb330))) (fun _ hk => hk.2) (.int .i64 t324)) (fun _ hk => hk.2) (.int .i64 t325)) (fun _ hk => hk.2) (.int .i64 t326)) (fun _ hk => hk.2) (.int .i64 t327)) (fun _ hk => ⟨hk.1.1.1, ⟨hk.1.1.2, hk.1.2⟩⟩)))⟩; replace BK289 : Aside0 (w151.heap[gb289]? = some (.cells #[.int .i64 a1_0, .int .i64 a1_1] 41 (0, 0))) := ⟨(by rw [hw]; exact (by (with_reducible repeat (first | refine blk_drewN ?_ _ | refine blk_drew ?_ | refine blk_alloc ?_ _)); refine blk_far ?_ NB289_330.out _; (with_reducible repeat (first | refine blk_drewN ?_ _ | refine blk_drew ?_ | refine blk_alloc ?_ _)); refine blk_far ?_ NB289_330.out _; (with_reducible repeat (first | refine blk_drewN ?_ _ | refine blk_drew ?_ | refine blk_alloc ?_ _)); refine blk_far ?_ NB289_330.out _; (with_reducible repeat (first | refine blk_drewN ?_ _ | refine blk_drew ?_ | refine blk_alloc ?_ _)); refine blk_far ?_ NB289_330.out _; (with_reducible repeat (first | refine blk_drewN ?_ _ | refine blk_drew ?_ | refine blk_alloc ?_ _)); exact BK289.out))⟩; replace BK290 : Aside0 (w151.heap[gb290]? = some (.cells #[.int .i64 a2_0, .int .i64 a2_1, .int .i64 a2_2, .int .i64 a2_3] 25 (0, 0))) := ⟨(by rw [hw]; exact (by (with_reducible repeat (first | refine blk_drewN ?_ _ | refine blk_drew ?_ | refine blk_alloc ?_ _)); refine blk_far ?_ NB290_330.out _; (with_reducible repeat (first | refine blk_drewN ?_ _ | refine blk_drew ?_ | refine blk_alloc ?_ _)); refine blk_far ?_ NB290_330.out _; (with_reducible repeat (first | refine blk_drewN ?_ _ | refine blk_drew ?_ | refine blk_alloc ?_ _)); refine blk_far ?_ NB290_330.out _; (with_reducible repeat (first | refine blk_drewN ?_ _ | refine blk_drew ?_ | refine blk_alloc ?_ _)); refine blk_far ?_ NB290_330.out _; (with_reducible repeat (first | refine blk_drewN ?_ _ | refine blk_drew ?_ | refine blk_alloc ?_ _)); exact BK290.out))⟩; replace BK330 : Aside0 (w151.heap[gb330]? = some (.cells #[.int .i64 t324, .int .i64 t325, .int .i64 t326, .int .i64 t327] 25 (0, 0))) := ⟨(by rw [hw]; exact (by (with_reducible repeat (first | refine blk_drewN ?_ _ | refine blk_drew ?_ | refine blk_alloc ?_ _)); refine blk_put (cs := #[.int .i64 t324, .int .i64 t325, .int .i64 t326, .int .i64 0]) ?_ 3 _ rfl; (with_reducible repeat (first | refine blk_drewN ?_ _ | refine blk_drew ?_ | refine blk_alloc ?_ _)); refine blk_put (cs := #[.int .i64 t324, .int .i64 t325, .int .i64 0, .int .i64 0]) ?_ 2 _ rfl; (with_reducible repeat (first | refine blk_drewN ?_ _ | refine blk_drew ?_ | refine blk_alloc ?_ _)); refine blk_put (cs := #[.int .i64 t324, .int .i64 0, .int .i64 0, .int .i64 0]) ?_ 1 _ rfl; (with_reducible repeat (first | refine blk_drewN ?_ _ | refine blk_drew ?_ | refine blk_alloc ?_ _)); refine blk_put (cs := #[.int .i64 0, .int .i64 0, .int .i64 0, .int .i64 0]) ?_ 0 _ rfl; (with_reducible repeat (first | refine blk_drewN ?_ _ | refine blk_drew ?_ | refine blk_alloc ?_ _)); exact BK330.out))⟩; replace HB : Aside0 (Below w.heap.size w w151) := ⟨(by rw [hw]; exact (bl HB))⟩; clear hw; obtain ⟨hcz152_0, hcz152_1⟩ := ce2 BK289; obtain ⟨hfz152_0, hfz152_1⟩ := fr2 BK289; obtain ⟨Ao153, co153, eo153⟩ := Kd.V_slice HO_7.out; subst eo153) | ((with_reducible refine gate_callee (f := 9) rfl ?_); refine goesL_ (some 157) rfl rfl Try.func9 (by kernel_rfl) rfl #[.slice Ao153 t293.length co153, .int .i64 a1_1] rfl (by (try simp only [List.map_toArray, List.map_cons, List.map_nil]); first | done | rfl | (simp only [List.length_drop, List.length_take]; rfl)) ?_; (with_reducible refine (books_Get.calls kj115 _ _ t293 a1_1 t331 t332 t333 t334 t335 t336 _ ?side1 ?side2 A135.out).mono ?_); (case side1 => repeat (first | exact (Kd.V_reads' HO_7.out).2.2 | (with_reducible refine Kd.C_alloc ?_ _) | (with_reducible refine Kd.C_drewN ?_ _) | (with_reducible refine Kd.C_drew ?_))); (case side2 => exact (Kd.V_reads' HO_7.out).2.1); rintro e w154 ⟨rfl, hb⟩; refine ⟨_, rfl, ?_⟩; replace HO_7 := vb HO_7 hb; replace HO_10 := vb HO_10 hb; replace BK289 := Aside0.mk (blk_below (bo BK289) hb); replace BK290 := Aside0.mk (blk_below (bo BK290) hb); replace BK330 := Aside0.mk (blk_below (bo BK330) hb); replace HB := Aside0.mk (below_step (bl HB) hb); (try clear hb); (try clear hb2); (try clear hk); (try clear hi)) | ((with_reducible refine gate_dst (N := 21) rfl ?_); (try (refine gate_guard (by rfl) ?_; dsimp only)); refine box_event ?hg (N := 21) ?hd (cs := #[.int .i64 0, .int .i64 0, .int .i64 0, .int .i64 0]) (t := 25) ?hr ?_; (case hd => rfl); (case hg => rfl); (case hr => first | (go_simp; done) | (go_simp; rfl)); intro gb337 hg w155 hbox hb; have BK337 := Aside0.mk (hbox); have GW337 := Aside0.mk ((by rw [hg]; exact (below_size (bl HB)) : w.heap.size ≤ gb337)); have GE337 := Aside0.mk ((by rw [hg]; exact (below_size (bl HB)) : w.heap.size ≤ gb337)); have NB289_337 := nb BK289 hg; have NB337_289 := bn BK289 hg; have NB290_337 := nb BK290 hg; have NB337_290 := bn BK290 hg; have NB330_337 := nb BK330 hg; have NB337_330 := bn BK330 hg; replace HO_7 := ve HO_7 hg hb; replace HO_10 := ve HO_10 hg hb; replace BK289 := Aside0.mk (blk_below (bo BK289) hb); replace BK290 := Aside0.mk (blk_below (bo BK290) hb); replace BK330 := Aside0.mk (blk_below (bo BK330) hb); replace HB := Aside0.mk (below_step (bl HB) hb); clear hb hbox hg; have hnb156 := NB337_289.out; have hnc156 := NB289_337.out; have hnb157 := NB337_290.out; have hnc157 := NB290_337.out; have hnb158 := NB337_330.out; have hnc158 := NB330_337.out; obtain ⟨hcz159_0, hcz159_1, hcz159_2, hcz159_3⟩ := ce4 BK337; obtain ⟨hfz159_0, hfz159_1, hfz159_2, hfz159_3⟩ := fr4 BK337) | ((with_reducible refine gate_store (t := 25) (p := 21) rfl ?_); refine store_event (t := 25) (p := 21) (v := ?vo_w160) (w1 := ((((w155.setCell ⟨gb337, 0, none⟩ (.int .i64 t331)).setCell ⟨gb337, 1, none⟩ (.int .i64 t332)).setCell ⟨gb337, 2, none⟩ (.int .i64 t333)).setCell ⟨gb337, 3, none⟩ (.int .i64 t334))) ?hg ?ho ?hn ?hr ?_; (case ho => rfl); (case hg => rfl); (case hn => rfl); (case hr => first | (go_simp; done) | (go_simp; rfl)); intro w160 hw; replace HO_7 : Aside0 (Kd.V k43 43 w160 w.heap.size (fun k_ => k_ ≠ gb289 ∧ k_ ≠ gb290 ∧ k_ ≠ gb330 ∧ k_ ≠ gb337) (.slice Ao153 t293.length co153) t293) := ⟨(by rw [hw]; exact (by (with_reducible repeat (first | apply Kd.V_alloc | apply Kd.V_drewN | apply Kd.V_drew)); exact Kd.V_mono (Kd.V_far (p := ⟨gb337, 3, none⟩) (Kd.V_far (p := ⟨gb337, 2, none⟩) (Kd.V_far (p := ⟨gb337, 1, none⟩) (Kd.V_far (p := ⟨gb337, 0, none⟩) (Kd.V_mono HO_7.out (fun k_ hk => (⟨hk, hk.2⟩ : _ ∧ k_ ≠ gb337))) (fun _ hk => hk.2) (.int .i64 t331)) (fun _ hk => hk.2) (.int .i64 t332)) (fun _ hk => hk.2) (.int .i64 t333)) (fun _ hk => hk.2) (.int .i64 t334)) (fun _ hk => ⟨hk.1.1.1, ⟨hk.1.1.2.1, ⟨hk.1.1.2.2, hk.1.2⟩⟩⟩)))⟩; replace HO_10 : Aside0 (Kd.V k43 43 w160 w.heap.size (fun k_ => k_ ≠ gb289 ∧ k_ ≠ gb290 ∧ k_ ≠ gb330 ∧ k_ ≠ gb337) v299 t298) := ⟨(by rw [hw]; exact (by (with_reducible repeat (first | apply Kd.V_alloc | apply Kd.V_drewN | apply Kd.V_drew)); exact Kd.V_mono (Kd.V_far (p := ⟨gb337, 3, none⟩) (Kd.V_far (p := ⟨gb337, 2, none⟩) (Kd.V_far (p := ⟨gb337, 1, none⟩) (Kd.V_far (p := ⟨gb337, 0, none⟩) (Kd.V_mono HO_10.out (fun k_ hk => (⟨hk, hk.2⟩ : _ ∧ k_ ≠ gb337))) (fun _ hk => hk.2) (.int .i64 t331)) (fun _ hk => hk.2) (.int .i64 t332)) (fun _ hk => hk.2) (.int .i64 t333)) (fun _ hk => hk.2) (.int .i64 t334)) (fun _ hk => ⟨hk.1.1.1, ⟨hk.1.1.2.1, ⟨hk.1.1.2.2, hk.1.2⟩⟩⟩)))⟩; replace BK289 : Aside0 (w160.heap[gb289]? = some (.cells #[.int .i64 a1_0, .int .i64 a1_1] 41 (0, 0))) := ⟨(by rw [hw]; exact (by (with_reducible repeat (first | refine blk_drewN ?_ _ | refine blk_drew ?_ | refine blk_alloc ?_ _)); refine blk_far ?_ NB289_337.out _; (with_reducible repeat (first | refine blk_drewN ?_ _ | refine blk_drew ?_ | refine blk_alloc ?_ _)); refine blk_far ?_ NB289_337.out _; (with_reducible repeat (first | refine blk_drewN ?_ _ | refine blk_drew ?_ | refine blk_alloc ?_ _)); refine blk_far ?_ NB289_337.out _; (with_reducible repeat (first | refine blk_drewN ?_ _ | refine blk_drew ?_ | refine blk_alloc ?_ _)); refine blk_far ?_ NB289_337.out _; (with_reducible repeat (first | refine blk_drewN ?_ _ | refine blk_drew ?_ | refine blk_alloc ?_ _)); exact BK289.out))⟩; replace BK290 : Aside0 (w160.heap[gb290]? = some (.cells #[.int .i64 a2_0, .int .i64 a2_1, .int .i64 a2_2, .int .i64 a2_3] 25 (0, 0))) := ⟨(by rw [hw]; exact (by (with_reducible repeat (first | refine blk_drewN ?_ _ | refine blk_drew ?_ | refine blk_alloc ?_ _)); refine blk_far ?_ NB290_337.out _; (with_reducible repeat (first | refine blk_drewN ?_ _ | refine blk_drew ?_ | refine blk_alloc ?_ _)); refine blk_far ?_ NB290_337.out _; (with_reducible repeat (first | refine blk_drewN ?_ _ | refine blk_drew ?_ | refine blk_alloc ?_ _)); refine blk_far ?_ NB290_337.out _; (with_reducible repeat (first | refine blk_drewN ?_ _ | refine blk_drew ?_ | refine blk_alloc ?_ _)); refine blk_far ?_ NB290_337.out _; (with_reducible repeat (first | refine blk_drewN ?_ _ | refine blk_drew ?_ | refine blk_alloc ?_ _)); exact BK290.out))⟩; replace BK330 : Aside0 (w160.heap[gb330]? = some (.cells #[.int .i64 t324, .int .i64 t325, .int .i64 t326, .int .i64 t327] 25 (0, 0))) := ⟨(by rw [hw]; exact (by (with_reducible repeat (first | refine blk_drewN ?_ _ | refine blk_drew ?_ | refine blk_alloc ?_ _)); refine blk_far ?_ NB330_337.out _; (with_reducible repeat (first | refine blk_drewN ?_ _ | refine blk_drew ?_ | refine blk_alloc ?_ _)); refine blk_far ?_ NB330_337.out _; (with_reducible repeat (first | refine blk_drewN ?_ _ | refine blk_drew ?_ | refine blk_alloc ?_ _)); refine blk_far ?_ NB330_337.out _; (with_reducible repeat (first | refine blk_drewN ?_ _ | refine blk_drew ?_ | refine blk_alloc ?_ _)); refine blk_far ?_ NB330_337.out _; (with_reducible repeat (first | refine blk_drewN ?_ _ | refine blk_drew ?_ | refine blk_alloc ?_ _)); exact BK330.out))⟩; replace BK337 : Aside0 (w160.heap[gb337]? = some (.cells #[.int .i64 t331, .int .i64 t332, .int .i64 t333, .int .i64 t334] 25 (0, 0))) := ⟨(by rw [hw]; exact (by (with_reducible repeat (first | refine blk_drewN ?_ _ | refine blk_drew ?_ | refine blk_alloc ?_ _)); refine blk_put (cs := #[.int .i64 t331, .int .i64 t332, .int .i64 t333, .int .i64 0]) ?_ 3 _ rfl; (with_reducible repeat (first | refine blk_drewN ?_ _ | refine blk_drew ?_ | refine blk_alloc ?_ _)); refine blk_put (cs := #[.int .i64 t331, .int .i64 t332, .int .i64 0, .int .i64 0]) ?_ 2 _ rfl; (with_reducible repeat (first | refine blk_drewN ?_ _ | refine blk_drew ?_ | refine blk_alloc ?_ _)); refine blk_put (cs := #[.int .i64 t331, .int .i64 0, .int .i64 0, .int .i64 0]) ?_ 1 _ rfl; (with_reducible repeat (first | refine blk_drewN ?_ _ | refine blk_drew ?_ | refine blk_alloc ?_ _)); refine blk_put (cs := #[.int .i64 0, .int .i64 0, .int .i64 0, .int .i64 0]) ?_ 0 _ rfl; (with_reducible repeat (first | refine blk_drewN ?_ _ | refine blk_drew ?_ | refine blk_alloc ?_ _)); exact BK337.out))⟩; replace HB : Aside0 (Below w.heap.size w w160) := ⟨(by rw [hw]; exact (bl HB))⟩; clear hw; obtain ⟨hcz161_0, hcz161_1⟩ := ce2 BK289; obtain ⟨hfz161_0, hfz161_1⟩ := fr2 BK289; obtain ⟨Ao162, co162, eo162⟩ := Kd.V_slice HO_10.out; subst eo162) | ((with_reducible refine gate_callee (f := 9) rfl ?_); refine goesL_ (some 165) rfl rfl Try.func9 (by kernel_rfl) rfl #[.slice Ao162 t298.length co162, .int .i64 a1_1] rfl (by (try simp only [List.map_toArray, List.map_cons, List.map_nil]); first | done | rfl | (simp only [List.length_drop, List.length_take]; rfl)) ?_; (with_reducible refine (books_Get.calls kj115 _ _ t298 a1_1 t338 t339 t340 t341 t342 t343 _ ?side1 ?side2 A136.out).mono ?_); (case side1 => repeat (first | exact (Kd.V_reads' HO_10.out).2.2 | (with_reducible refine Kd.C_alloc ?_ _) | (with_reducible refine Kd.C_drewN ?_ _) | (with_reducible refine Kd.C_drew ?_))); (case side2 => exact (Kd.V_reads' HO_10.out).2.1); rintro e w163 ⟨rfl, hb⟩; refine ⟨_, rfl, ?_⟩; replace HO_7 := vb HO_7 hb; replace HO_10 := vb HO_10 hb; replace BK289 := Aside0.mk (blk_below (bo BK289) hb); replace BK290 := Aside0.mk (blk_below (bo BK290) hb); replace BK330 := Aside0.mk (blk_below (bo BK330) hb); replace BK337 := Aside0.mk (blk_below (bo BK337) hb); replace HB := Aside0.mk (below_step (bl HB) hb); (try clear hb); (try clear hb2); (try clear hk); (try clear hi)) | ((with_reducible refine gate_dst (N := 24) rfl ?_); (try (refine gate_guard (by rfl) ?_; dsimp only)); refine box_event ?hg (N := 24) ?hd (cs := #[.int .i64 0, .int .i64 0, .int .i64 0, .int .i64 0]) (t := 25) ?hr ?_; (case hd => rfl); (case hg => rfl); (case hr => first | (go_simp; done) | (go_simp; rfl)); intro gb344 hg w164 hbox hb; have BK344 := Aside0.mk (hbox); have GW344 := Aside0.mk ((by rw [hg]; exact (below_size (bl HB)) : w.heap.size ≤ gb344)); have GE344 := Aside0.mk ((by rw [hg]; exact (below_size (bl HB)) : w.heap.size ≤ gb344)); have NB289_344 := nb BK289 hg; have NB344_289 := bn BK289 hg; have NB290_344 := nb BK290 hg; have NB344_290 := bn BK290 hg; have NB330_344 := nb BK330 hg; have NB344_330 := bn BK330 hg; have NB337_344 := nb BK337 hg; have NB344_337 := bn BK337 hg; replace HO_7 := ve HO_7 hg hb; replace HO_10 := ve HO_10 hg hb; replace BK289 := Aside0.mk (blk_below (bo BK289) hb); replace BK290 := Aside0.mk (blk_below (bo BK290) hb); replace BK330 := Aside0.mk (blk_below (bo BK330) hb); replace BK337 := Aside0.mk (blk_below (bo BK337) hb); replace HB := Aside0.mk (below_step (bl HB) hb); clear hb hbox hg; have hnb165 := NB344_289.out; have hnc165 := NB289_344.out; have hnb166 := NB344_290.out; have hnc166 := NB290_344.out; have hnb167 := NB344_330.out; have hnc167 := NB330_344.out; have hnb168 := NB344_337.out; have hnc168 := NB337_344.out; obtain ⟨hcz169_0, hcz169_1, hcz169_2, hcz169_3⟩ := ce4 BK344; obtain ⟨hfz169_0, hfz169_1, hfz169_2, hfz169_3⟩ := fr4 BK344) | ((with_reducible refine gate_store (t := 25) (p := 24) rfl ?_); refine store_event (t := 25) (p := 24) (v := ?vo_w170) (w1 := ((((w164.setCell ⟨gb344, 0, none⟩ (.int .i64 t338)).setCell ⟨gb344, 1, none⟩ (.int .i64 t339)).setCell ⟨gb344, 2, none⟩ (.int .i64 t340)).setCell ⟨gb344, 3, none⟩ (.int .i64 t341))) ?hg ?ho ?hn ?hr ?_; (case ho => rfl); (case hg => rfl); (case hn => rfl); (case hr => first | (go_simp; done) | (go_simp; rfl)); intro w170 hw; replace HO_7 : Aside0 (Kd.V k43 43 w170 w.heap.size (fun k_ => k_ ≠ gb289 ∧ k_ ≠ gb290 ∧ k_ ≠ gb330 ∧ k_ ≠ gb337 ∧ k_ ≠ gb344) (.slice Ao153 t293.length co153) t293) := ⟨(by rw [hw]; exact (by (with_reducible repeat (first | apply Kd.V_alloc | apply Kd.V_drewN | apply Kd.V_drew)); exact Kd.V_mono (Kd.V_far (p := ⟨gb344, 3, none⟩) (Kd.V_far (p := ⟨gb344, 2, none⟩) (Kd.V_far (p := ⟨gb344, 1, none⟩) (Kd.V_far (p := ⟨gb344, 0, none⟩) (Kd.V_mono HO_7.out (fun k_ hk => (⟨hk, hk.2⟩ : _ ∧ k_ ≠ gb344))) (fun _ hk => hk.2) (.int .i64 t338)) (fun _ hk => hk.2) (.int .i64 t339)) (fun _ hk => hk.2) (.int .i64 t340)) (fun _ hk => hk.2) (.int .i64 t341)) (fun _ hk => ⟨hk.1.1.1, ⟨hk.1.1.2.1, ⟨hk.1.1.2.2.1, ⟨hk.1.1.2.2.2, hk.1.2⟩⟩⟩⟩)))⟩; replace HO_10 : Aside0 (Kd.V k43 43 w170 w.heap.size (fun k_ => k_ ≠ gb289 ∧ k_ ≠ gb290 ∧ k_ ≠ gb330 ∧ k_ ≠ gb337 ∧ k_ ≠ gb344) (.slice Ao162 t298.length co162) t298) := ⟨(by rw [hw]; exact (by (with_reducible repeat (first | apply Kd.V_alloc | apply Kd.V_drewN | apply Kd.V_drew)); exact Kd.V_mono (Kd.V_far (p := ⟨gb344, 3, none⟩) (Kd.V_far (p := ⟨gb344, 2, none⟩) (Kd.V_far (p := ⟨gb344, 1, none⟩) (Kd.V_far (p := ⟨gb344, 0, none⟩) (Kd.V_mono HO_10.out (fun k_ hk => (⟨hk, hk.2⟩ : _ ∧ k_ ≠ gb344))) (fun _ hk => hk.2) (.int .i64 t338)) (fun _ hk => hk.2) (.int .i64 t339)) (fun _ hk => hk.2) (.int .i64 t340)) (fun _ hk => hk.2) (.int .i64 t341)) (fun _ hk => ⟨hk.1.1.1, ⟨hk.1.1.2.1, ⟨hk.1.1.2.2.1, ⟨hk.1.1.2.2.2, hk.1.2⟩⟩⟩⟩)))⟩; replace BK289 : Aside0 (w170.heap[gb289]? = some (.cells #[.int .i64 a1_0, .int .i64 a1_1] 41 (0, 0))) := ⟨(by rw [hw]; exact (by (with_reducible repeat (first | refine blk_drewN ?_ _ | refine blk_drew ?_ | refine blk_alloc ?_ _)); refine blk_far ?_ NB289_344.out _; (with_reducible repeat (first | refine blk_drewN ?_ _ | refine blk_drew ?_ | refine blk_alloc ?_ _)); refine blk_far ?_ NB289_344.out _; (with_reducible repeat (first | refine blk_drewN ?_ _ | refine blk_drew ?_ | refine blk_alloc ?_ _)); refine blk_far ?_ NB289_344.out _; (with_reducible repeat (first | refine blk_drewN ?_ _ | refine blk_drew ?_ | refine blk_alloc ?_ _)); refine blk_far ?_ NB289_344.out _; (with_reducible repeat (first | refine blk_drewN ?_ _ | refine blk_drew ?_ | refine blk_alloc ?_ _)); exact BK289.out))⟩; replace BK290 : Aside0 (w170.heap[gb290]? = some (.cells #[.int .i64 a2_0, .int .i64 a2_1, .int .i64 a2_2, .int .i64 a2_3] 25 (0, 0))) := ⟨(by rw [hw]; exact (by (with_reducible repeat (first | refine blk_drewN ?_ _ | refine blk_drew ?_ | refine blk_alloc ?_ _)); refine blk_far ?_ NB290_344.out _; (with_reducible repeat (first | refine blk_drewN ?_ _ | refine blk_drew ?_ | refine blk_alloc ?_ _)); refine blk_far ?_ NB290_344.out _; (with_reducible repeat (first | refine blk_drewN ?_ _ | refine blk_drew ?_ | refine blk_alloc ?_ _)); refine blk_far ?_ NB290_344.out _; (with_reducible repeat (first | refine blk_drewN ?_ _ | refine blk_drew ?_ | refine blk_alloc ?_ _)); refine blk_far ?_ NB290_344.out _; (with_reducible repeat (first | refine blk_drewN ?_ _ | refine blk_drew ?_ | refine blk_alloc ?_ _)); exact BK290.out))⟩; replace BK330 : Aside0 (w170.heap[gb330]? = some (.cells #[.int .i64 t324, .int .i64 t325, .int .i64 t326, .int .i64 t327] 25 (0, 0))) := ⟨(by rw [hw]; exact (by (with_reducible repeat (first | refine blk_drewN ?_ _ | refine blk_drew ?_ | refine blk_alloc ?_ _)); refine blk_far ?_ NB330_344.out _; (with_reducible repeat (first | refine blk_drewN ?_ _ | refine blk_drew ?_ | refine blk_alloc ?_ _)); refine blk_far ?_ NB330_344.out _; (with_reducible repeat (first | refine blk_drewN ?_ _ | refine blk_drew ?_ | refine blk_alloc ?_ _)); refine blk_far ?_ NB330_344.out _; (with_reducible repeat (first | refine blk_drewN ?_ _ | refine blk_drew ?_ | refine blk_alloc ?_ _)); refine blk_far ?_ NB330_344.out _; (with_reducible repeat (first | refine blk_drewN ?_ _ | refine blk_drew ?_ | refine blk_alloc ?_ _)); exact BK330.out))⟩; replace BK337 : Aside0 (w170.heap[gb337]? = some (.cells #[.int .i64 t331, .int .i64 t332, .int .i64 t333, .int .i64 t334] 25 (0, 0))) := ⟨(by rw [hw]; exact (by (with_reducible repeat (first | refine blk_drewN ?_ _ | refine blk_drew ?_ | refine blk_alloc ?_ _)); refine blk_far ?_ NB337_344.out _; (with_reducible repeat (first | refine blk_drewN ?_ _ | refine blk_drew ?_ | refine blk_alloc ?_ _)); refine blk_far ?_ NB337_344.out _; (with_reducible repeat (first | refine blk_drewN ?_ _ | refine blk_drew ?_ | refine blk_alloc ?_ _)); refine blk_far ?_ NB337_344.out _; (with_reducible repeat (first | refine blk_drewN ?_ _ | refine blk_drew ?_ | refine blk_alloc ?_ _)); refine blk_far ?_ NB337_344.out _; (with_reducible repeat (first | refine blk_drewN ?_ _ | refine blk_drew ?_ | refine blk_alloc ?_ _)); exact BK337.out))⟩; replace BK344 : Aside0 (w170.heap[gb344]? = some (.cells #[.int .i64 t338, .int .i64 t339, .int .i64 t340, .int .i64 t341] 25 (0, 0))) := ⟨(by rw [hw]; exact (by (with_reducible repeat (first | refine blk_drewN ?_ _ | refine blk_drew ?_ | refine blk_alloc ?_ _)); refine blk_put (cs := #[.int .i64 t338, .int .i64 t339, .int .i64 t340, .int .i64 0]) ?_ 3 _ rfl; (with_reducible repeat (first | refine blk_drewN ?_ _ | refine blk_drew ?_ | refine blk_alloc ?_ _)); refine blk_put (cs := #[.int .i64 t338, .int .i64 t339, .int .i64 0, .int .i64 0]) ?_ 2 _ rfl; (with_reducible repeat (first | refine blk_drewN ?_ _ | refine blk_drew ?_ | refine blk_alloc ?_ _)); refine blk_put (cs := #[.int .i64 t338, .int .i64 0, .int .i64 0, .int .i64 0]) ?_ 1 _ rfl; (with_reducible repeat (first | refine blk_drewN ?_ _ | refine blk_drew ?_ | refine blk_alloc ?_ _)); refine blk_put (cs := #[.int .i64 0, .int .i64 0, .int .i64 0, .int .i64 0]) ?_ 0 _ rfl; (with_reducible repeat (first | refine blk_drewN ?_ _ | refine blk_drew ?_ | refine blk_alloc ?_ _)); exact BK344.out))⟩; replace HB : Aside0 (Below w.heap.size w w170) := ⟨(by rw [hw]; exact (bl HB))⟩; clear hw; obtain ⟨hcz171_0, hcz171_1, hcz171_2, hcz171_3⟩ := ce4 BK330; obtain ⟨hfz171_0, hfz171_1, hfz171_2, hfz171_3⟩ := fr4 BK330; obtain ⟨hcz172_0, hcz172_1, hcz172_2, hcz172_3⟩ := ce4 BK337; obtain ⟨hfz172_0, hfz172_1, hfz172_2, hfz172_3⟩ := fr4 BK337; obtain ⟨hcz173_0, hcz173_1, hcz173_2, hcz173_3⟩ := ce4 BK344; obtain ⟨hfz173_0, hfz173_1, hfz173_2, hfz173_3⟩ := fr4 BK344) | (go_at_call 8; (with_reducible refine (sandglasslaw16_live.calls kj115  t345 _ A143.out).mono ?_); rintro e w174 ⟨rfl, hb⟩; replace HO_7 := vb HO_7 hb; replace HO_10 := vb HO_10 hb; replace BK289 := Aside0.mk (blk_below (bo BK289) hb); replace BK290 := Aside0.mk (blk_below (bo BK290) hb); replace BK330 := Aside0.mk (blk_below (bo BK330) hb); replace BK337 := Aside0.mk (blk_below (bo BK337) hb); replace BK344 := Aside0.mk (blk_below (bo BK344) hb); replace HB := Aside0.mk (below_step (bl HB) hb); (try clear hb); (try clear hb2); (try clear hk); (try clear hi)))
                                    go_ret
                                    exact ⟨by first | (with_reducible rfl) | rfl | (simp [errW_none, errW_some] <;> rfl) | (simp [*, errW_none, errW_some] <;> rfl), bl HB⟩
                                  · rw [if_neg c142] at H
                                    exact absurd H (by simp)
                                · rw [if_neg c141] at H
                                  exact absurd H (by simp)
                              · rw [if_neg c140] at H
                                exact absurd H (by simp)
                            · rw [if_neg c139] at H
                              exact absurd H (by simp)
                          · rw [if_neg c138] at H
                            exact absurd H (by simp)
                        · rw [if_neg c137] at H
                          exact absurd H (by simp)

end Go.Proofs.Ythplifnhibahpaa.Q
