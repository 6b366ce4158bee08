-- Laid by wip/tools/hprint.py, a program of this repo, over the kit's print; not a text of print.sh.
import Derived.Test.YtalcmlgkdkbbaaaQ0
import Derived.Test.YtalcmlgkdkbbaaaQ21
import Derived.Test.YtalcmlgkdkbbaaaQ22
import Derived.Test.YtalcmlgkdkbbaaaQ23
import Derived.Test.YtalcmlgkdkbbaaaQ24
import Derived.Test.YtalcmlgkdkbbaaaQ25
import Derived.Test.YtalcmlgkdkbbaaaQ26
import Derived.Test.YtalcmlgkdkbbaaaQ27
namespace Go.Proofs.Ytalcmlgkdkbbaaa.Q
open Go.RowKit Go.Proofs.Ytalcmlgkdkbbaaa.Zip Go.Proofs.YtalcmlgkdkbbaaaW.PrintWords Go.Proofs.YtalcmlgkdkbbaaaW.PrintLast Go.Proofs.YtalcmlgkdkbbaaaW.PrintMore
attribute [local go_sem] max2_int min2_int max_two min_two max_three min_three max_four min_four   -- for this text's walks alone
set_option linter.unusedVariables false
set_option linter.unusedSimpArgs false

/-! ### sandglassref12_Ask: function 11 -/
mutual
def sandglassref12_Ask.j0 : Nat → Int → Int → Bool → Int → Int → Int → Int → Int → Int → List Int → List (S54) → Option (Int × Int × List Int × (List (S54)) × Bool × Int × Int × Int)
  | 0, _, _, _, _, _, _, _, _, _, _, _ => none
  | k + 1, x2, x3, x28, x296000, x296001, x296002, x296003, x297000, x297001, x297002, x297003 => if x28 = true then (some (x297000, x297001, x297002, x297003, false, 0, 0, 0)) else ((sandglassref12_number.f x296000 x296001 x296002 x296003 (mx x2 x297000)).bind fun t302 => (if 0 ≤ x296003 then (if (x296003 : Int).toNat ≤ 35184372088832 then (sandglassref12_Ask.l0 k (mx x2 x297000) x3 t302 (mx 0 (wrap64 ((wrap64 (t302 - x296003)) + 1))) x296000 x296001 x296002 x296003 x297000 x297001 x297002 x297003 (mx x2 x297000) 0 (List.replicate (x296003 : Int).toNat 0)) else (none)) else (none)))
def sandglassref12_Ask.l0 : Nat → Int → Int → Int → Int → Int → Int → Int → Int → Int → Int → List Int → List (S54) → Int → Int → List Int → Option (Int × Int × List Int × (List (S54)) × Bool × Int × Int × Int)
  | 0, _, _, _, _, _, _, _, _, _, _, _, _, _, _, _ => none
  | k + 1, x2, x3, x10, x12, x296000, x296001, x296002, x296003, x297000, x297001, x297002, x297003, x307000, x307001, x307002 => if x12 ≤ x10 then ((sandglassref12_number.f x296000 x296001 x296002 x296003 x297000).bind fun t307 => (if x12 > (wrap64 (t307 - x296003)) then (if x296003 = 0 then (none) else ((sandglassref12_in.f k x296000 x296001 x296002 x296003 x297000 x297001 x297002 x297003 x12).bind fun t308 => (if 0 ≤ (Int.tmod x12 x296003) then (if (Int.tmod x12 x296003) < (x307002.length : Int) then (sandglassref12_Ask.l0 k x2 x3 x10 (wrap64 (x12 + 1)) x296000 x296001 x296002 x296003 x297000 x297001 x297002 x297003 x307000 x307001 (x307002.set ((Int.tmod x12 x296003) : Int).toNat t308)) else (none)) else (none)))) else (sandglassref12_Ask.l0 k x2 x3 x10 (wrap64 (x12 + 1)) x296000 x296001 x296002 x296003 x297000 x297001 x297002 x297003 x307000 x307001 x307002))) else ((sandglassref12_counts.f k x296000 x296001 x296002 x296003 x307000 x307001 x307002 ([] : List (S54)) x2).bind fun t310 => (if (wrap64 (t310 + x3)) ≤ x296001 then (if x296003 = 0 then (none) else (if 0 ≤ (Int.tmod x10 x296003) then (if (Int.tmod x10 x296003) < (x307002.length : Int) then ((some (x307002.set ((Int.tmod x10 x296003) : Int).toNat (wrap64 ((rd x307002 (Int.tmod x10 x296003)) + x3)) : List Int)).bind fun y313 => ((sandglassref12_wait.f k x296000 x296001 x296002 x296003 x307000 x307001 y313 ([] : List (S54)) x2 0).bind fun t314 => (some (x307000, x307001, y313, ([] : List (S54)), decide ((wrap64 (t310 + x3)) ≤ x296001), wrap64 (x296001 - (wrap64 (t310 + x3))), 0, t314)))) else (none)) else (none))) else (if x3 > x296001 then ((sandglassref12_wait.f k x296000 x296001 x296002 x296003 x307000 x307001 x307002 ([] : List (S54)) x2 0).bind fun t315 => (some (x307000, x307001, x307002, ([] : List (S54)), decide ((wrap64 (t310 + x3)) ≤ x296001), wrap64 (x296001 - t310), 2199023255552, t315))) else ((sandglassref12_wait.f k x296000 x296001 x296002 x296003 x307000 x307001 x307002 ([] : List (S54)) x2 (wrap64 (x296001 - x3))).bind fun t316 => ((sandglassref12_wait.f k x296000 x296001 x296002 x296003 x307000 x307001 x307002 ([] : List (S54)) x2 0).bind fun t317 => (some (x307000, x307001, x307002, ([] : List (S54)), decide ((wrap64 (t310 + x3)) ≤ x296001), wrap64 (x296001 - t310), t316, t317)))))))
end
def sandglassref12_Ask.f (k : Nat) (a0_0 : Int) (a0_1 : Int) (a0_2 : Int) (a0_3 : Int) (a1_0 : Int) (a1_1 : Int) (l1_2 : List Int) (l1_3 : List (S54)) (a2 : Int) (a3 : Int) : Option (Int × Int × List Int × (List (S54)) × Bool × Int × Int × Int) := (sandglassref12_May.f k a0_0 a0_1 a0_2 a0_3 a1_0 a1_1 l1_2 l1_3).bind fun t299 => (if t299 = true then ((sandglassref10_Time.f a2).bind fun t300 => (if t300 = true then ((sandglassref09_Weighs.f a3).bind fun t301 => (sandglassref12_Ask.j0 k a2 a3 (!t301) a0_0 a0_1 a0_2 a0_3 a1_0 a1_1 l1_2 l1_3)) else (sandglassref12_Ask.j0 k a2 a3 true a0_0 a0_1 a0_2 a0_3 a1_0 a1_1 l1_2 l1_3))) else (sandglassref12_Ask.j0 k a2 a3 true a0_0 a0_1 a0_2 a0_3 a1_0 a1_1 l1_2 l1_3))
theorem sandglassref12_Ask.mono_l : ∀ k, (∀ y0 y1 y2 y3 y4 y5 y6 y7 y8 y9 y10, LeO (sandglassref12_Ask.j0 k y0 y1 y2 y3 y4 y5 y6 y7 y8 y9 y10) (sandglassref12_Ask.j0 (k + 1) y0 y1 y2 y3 y4 y5 y6 y7 y8 y9 y10)) ∧ (∀ y0 y1 y2 y3 y4 y5 y6 y7 y8 y9 y10 y11 y12 y13 y14, LeO (sandglassref12_Ask.l0 k y0 y1 y2 y3 y4 y5 y6 y7 y8 y9 y10 y11 y12 y13 y14) (sandglassref12_Ask.l0 (k + 1) y0 y1 y2 y3 y4 y5 y6 y7 y8 y9 y10 y11 y12 y13 y14))
  | 0 => ⟨fun _ _ _ _ _ _ _ _ _ _ _ r h => by simp [sandglassref12_Ask.j0] at h, fun _ _ _ _ _ _ _ _ _ _ _ _ _ _ _ r h => by simp [sandglassref12_Ask.l0] at h⟩
  | k + 1 => by
    obtain ⟨ih0, ih1⟩ := sandglassref12_Ask.mono_l k
    refine ⟨?_, ?_⟩
    · intro y0 y1 y2 y3 y4 y5 y6 y7 y8 y9 y10
      unfold sandglassref12_Ask.j0
      repeat' first
      | (with_reducible exact ih0 _ _ _ _ _ _ _ _ _ _ _)
      | (with_reducible exact ih1 _ _ _ _ _ _ _ _ _ _ _ _ _ _ _)
      | (with_reducible exact sandglassref12_May.mono _ _ _ _ _ _ _ _ _)
      | (with_reducible exact sandglassref12_counts.mono _ _ _ _ _ _ _ _ _ _)
      | (with_reducible exact sandglassref12_in.mono _ _ _ _ _ _ _ _ _ _)
      | (with_reducible exact sandglassref12_wait.mono _ _ _ _ _ _ _ _ _ _ _)
      | (with_reducible exact LeO.refl _)
      | (with_reducible exact LeO.none _)
      | (with_reducible refine LeO.ite ?_ ?_)
      | (with_reducible refine LeO.bind ?_ (fun _ => ?_))
      | exact ih0 _ _ _ _ _ _ _ _ _ _ _
      | exact ih1 _ _ _ _ _ _ _ _ _ _ _ _ _ _ _
      | exact sandglassref12_May.mono _ _ _ _ _ _ _ _ _
      | exact sandglassref12_counts.mono _ _ _ _ _ _ _ _ _ _
      | exact sandglassref12_in.mono _ _ _ _ _ _ _ _ _ _
      | exact sandglassref12_wait.mono _ _ _ _ _ _ _ _ _ _ _
      | exact LeO.none _
      | refine LeO.ite ?_ ?_
      | refine LeO.bind ?_ (fun _ => ?_)
    · intro y0 y1 y2 y3 y4 y5 y6 y7 y8 y9 y10 y11 y12 y13 y14
      unfold sandglassref12_Ask.l0
      repeat' first
      | (with_reducible exact ih0 _ _ _ _ _ _ _ _ _ _ _)
      | (with_reducible exact ih1 _ _ _ _ _ _ _ _ _ _ _ _ _ _ _)
      | (with_reducible exact sandglassref12_May.mono _ _ _ _ _ _ _ _ _)
      | (with_reducible exact sandglassref12_counts.mono _ _ _ _ _ _ _ _ _ _)
      | (with_reducible exact sandglassref12_in.mono _ _ _ _ _ _ _ _ _ _)
      | (with_reducible exact sandglassref12_wait.mono _ _ _ _ _ _ _ _ _ _ _)
      | (with_reducible exact LeO.refl _)
      | (with_reducible exact LeO.none _)
      | (with_reducible refine LeO.ite ?_ ?_)
      | (with_reducible refine LeO.bind ?_ (fun _ => ?_))
      | exact ih0 _ _ _ _ _ _ _ _ _ _ _
      | exact ih1 _ _ _ _ _ _ _ _ _ _ _ _ _ _ _
      | exact sandglassref12_May.mono _ _ _ _ _ _ _ _ _
      | exact sandglassref12_counts.mono _ _ _ _ _ _ _ _ _ _
      | exact sandglassref12_in.mono _ _ _ _ _ _ _ _ _ _
      | exact sandglassref12_wait.mono _ _ _ _ _ _ _ _ _ _ _
      | exact LeO.none _
      | refine LeO.ite ?_ ?_
      | refine LeO.bind ?_ (fun _ => ?_)
theorem sandglassref12_Ask.mono : ∀ a0 a1 a2 a3 a4 a5 a6 a7 a8 a9 k, LeO (sandglassref12_Ask.f k a0 a1 a2 a3 a4 a5 a6 a7 a8 a9) (sandglassref12_Ask.f (k + 1) a0 a1 a2 a3 a4 a5 a6 a7 a8 a9) := by
  intro a0 a1 a2 a3 a4 a5 a6 a7 a8 a9 k
  obtain ⟨ih0, ih1⟩ := sandglassref12_Ask.mono_l k
  unfold sandglassref12_Ask.f
  repeat' first
      | (with_reducible exact ih0 _ _ _ _ _ _ _ _ _ _ _)
      | (with_reducible exact ih1 _ _ _ _ _ _ _ _ _ _ _ _ _ _ _)
      | (with_reducible exact sandglassref12_May.mono _ _ _ _ _ _ _ _ _)
      | (with_reducible exact sandglassref12_counts.mono _ _ _ _ _ _ _ _ _ _)
      | (with_reducible exact sandglassref12_in.mono _ _ _ _ _ _ _ _ _ _)
      | (with_reducible exact sandglassref12_wait.mono _ _ _ _ _ _ _ _ _ _ _)
      | (with_reducible exact LeO.refl _)
      | (with_reducible exact LeO.none _)
      | (with_reducible refine LeO.ite ?_ ?_)
      | (with_reducible refine LeO.bind ?_ (fun _ => ?_))
      | exact ih0 _ _ _ _ _ _ _ _ _ _ _
      | exact ih1 _ _ _ _ _ _ _ _ _ _ _ _ _ _ _
      | exact sandglassref12_May.mono _ _ _ _ _ _ _ _ _
      | exact sandglassref12_counts.mono _ _ _ _ _ _ _ _ _ _
      | exact sandglassref12_in.mono _ _ _ _ _ _ _ _ _ _
      | exact sandglassref12_wait.mono _ _ _ _ _ _ _ _ _ _ _
      | exact LeO.none _
      | refine LeO.ite ?_ ?_
      | refine LeO.bind ?_ (fun _ => ?_)
def sandglassref12_Ask.T9 : Bool × List (List Nat × List Nat) := (true, [([], []), ([], []), ([], []), ([2], [2]), ([1, 3], [1, 3]), ([], []), ([5], [5]), ([4, 6], [4, 6]), ([0, 7], [0, 7])])
def sandglassref12_Ask.B9 : List Nat := [0, 0, 0, 4, 14, 0, 32, 126, 255]
theorem sandglassref12_Ask.tab9 : rtab .any (opsOf Try.f11 9) = sandglassref12_Ask.T9 := by kernel_rfl
theorem sandglassref12_Ask.bits9 : waitsOk sandglassref12_Ask.T9.2 sandglassref12_Ask.B9 = true := by kernel_rfl
def sandglassref12_Ask.T10 : Bool × List (List Nat × List Nat) := (true, [([], []), ([0], [0]), ([], []), ([], []), ([3], [3]), ([2, 4], [2, 4]), ([], []), ([], []), ([], []), ([6, 7, 8], [6, 7, 8]), ([1, 5, 0, 1, 2, 3, 4, 5, 6, 7, 8, 9], [1, 5]), ([10, 9, 9, 0, 1, 2, 3, 4, 5, 6, 7, 8, 9], [9, 10])])
def sandglassref12_Ask.B10 : List Nat := [0, 1, 0, 0, 8, 28, 0, 0, 0, 448, 1023, 2047]
theorem sandglassref12_Ask.tab10 : rtab .any (opsOf Try.f11 10) = sandglassref12_Ask.T10 := by kernel_rfl
theorem sandglassref12_Ask.bits10 : waitsOk sandglassref12_Ask.T10.2 sandglassref12_Ask.B10 = true := by kernel_rfl
def sandglassref12_Ask.T14 : Bool × List (List Nat × List Nat) := (true, [([], []), ([0], [0]), ([], []), ([], []), ([3], [3]), ([2, 4], [2, 4]), ([], []), ([6], [6]), ([], []), ([], []), ([9], [9]), ([8, 10], [8, 10]), ([7, 11], [7, 11]), ([12], [12]), ([], []), ([13, 14], [13, 14]), ([1, 5, 0, 1, 2, 3, 4, 5, 6, 7, 8, 9, 10, 11, 12, 13, 14, 15], [1, 5]), ([16, 15, 0, 1, 2, 3, 4, 5, 6, 7, 8, 9, 10, 11, 12, 13, 14, 15], [15, 16])])
def sandglassref12_Ask.B14 : List Nat := [0, 1, 0, 0, 8, 28, 0, 64, 0, 0, 512, 1792, 4032, 8128, 0, 32704, 65535, 131071]
theorem sandglassref12_Ask.tab14 : rtab .any (opsOf Try.f11 14) = sandglassref12_Ask.T14 := by kernel_rfl
theorem sandglassref12_Ask.bits14 : waitsOk sandglassref12_Ask.T14.2 sandglassref12_Ask.B14 = true := by kernel_rfl
set_option maxHeartbeats 8000000 in
set_option maxRecDepth 100000 in
theorem sandglassref12_Ask.calls (k : Nat) (a0_0 : Int) (a0_1 : Int) (a0_2 : Int) (a0_3 : Int) (a1_0 : Int) (a1_1 : Int) (P1_2_ : Nat → Prop) (A1_2 : Option Addr) (c1_2 : Nat) (l1_2 : List Int) (P1_3_ : Nat → Prop) (A1_3 : Option Addr) (c1_3 : Nat) (l1_3 : List (S54)) (a2 : Int) (a3 : Int) (r1 : Int) (r2 : Int) (r3 : List Int) (r4 : List (S54)) (r5 : Bool) (r6 : Int) (r7 : Int) (r8 : Int) (w : World) (hs1_2 : Kd.V (Kd.int .i64) 3 w w.heap.size (fun k_ => P1_2_ k_) (.slice A1_2 l1_2.length c1_2) l1_2) (hs1_3 : Kd.V k54 54 w w.heap.size (fun k_ => P1_3_ k_) (.slice A1_3 l1_3.length c1_3) l1_3) (h : sandglassref12_Ask.f k a0_0 a0_1 a0_2 a0_3 a1_0 a1_1 l1_2 l1_3 a2 a3 = some (r1, r2, r3, r4, r5, r6, r7, r8)) :
  Calls Try.prog 11 #[.agg #[.int .i64 a0_0, .int .i64 a0_1, .int .i64 a0_2, .int .i64 a0_3], .agg #[.int .i64 a1_0, .int .i64 a1_1, .slice A1_2 l1_2.length c1_2, .slice A1_3 l1_3.length c1_3], .int .i64 a2, .int .i64 a3] w fun e w' => ∃ v2_ v3_ : Value, e = .returned (.tuple #[.agg #[.int .i64 r1, .int .i64 r2, v2_, v3_], .agg #[.bool r5, .int .i64 r6, .int .i64 r7, .int .i64 r8]]) ∧ Kd.V (Kd.int .i64) 3 w' w.heap.size (fun k_ => ((P1_2_ k_ ∨ P1_3_ k_) ∨ w.heap.size ≤ k_)) v2_ r3 ∧ Kd.V k54 54 w' w.heap.size (fun k_ => ((P1_2_ k_ ∨ P1_3_ k_) ∨ w.heap.size ≤ k_)) v3_ r4 ∧ Below w.heap.size w w' := by
 have hu23 := Try.underlying23
 have hu27 := Try.underlying27
 have hu32 := Try.underlying32
 have HO1_2 := Aside0.mk (show Kd.V (Kd.int .i64) 3 w w.heap.size (fun k_ => ((P1_2_ k_ ∨ P1_3_ k_) ∨ w.heap.size ≤ k_)) (.slice A1_2 l1_2.length c1_2) l1_2 from Kd.V_mono hs1_2 (fun k_ hk => .inl (.inl hk)))
 have HO1_3 := Aside0.mk (show Kd.V k54 54 w w.heap.size (fun k_ => ((P1_2_ k_ ∨ P1_3_ k_) ∨ w.heap.size ≤ k_)) (.slice A1_3 l1_3.length c1_3) l1_3 from Kd.V_mono hs1_3 (fun k_ hk => .inl (.inr hk)))
 have HB := Aside0.mk (Below.refl w.heap.size w)
 have H : ((sandglassref12_May.f k a0_0 a0_1 a0_2 a0_3 a1_0 a1_1 l1_2 l1_3).bind fun t299 => (if t299 = true then ((sandglassref10_Time.f a2).bind fun t300 => (if t300 = true then ((sandglassref09_Weighs.f a3).bind fun t301 => (sandglassref12_Ask.j0 k a2 a3 (!t301) a0_0 a0_1 a0_2 a0_3 a1_0 a1_1 l1_2 l1_3)) else (sandglassref12_Ask.j0 k a2 a3 true a0_0 a0_1 a0_2 a0_3 a1_0 a1_1 l1_2 l1_3))) else (sandglassref12_Ask.j0 k a2 a3 true a0_0 a0_1 a0_2 a0_3 a1_0 a1_1 l1_2 l1_3))) = some (r1, r2, r3, r4, r5, r6, r7, r8) := h
 clear h
 have HC5 := Aside0.mk H
 clear H
 go_enter Try.func11, Try.ntmps11
 go_upto_region 1 with (first | ((with_reducible refine gate_dst (N := 4) rfl ?_); refine box_event ?hg (N := 4) ?hd (cs := #[.int .i64 a0_0, .int .i64 a0_1, .int .i64 a0_2, .int .i64 a0_3]) (t := 23) ?hr ?_; (case hd => rfl); (case hg => rfl); (case hr => first | (go_simp; done) | (go_simp; rfl)); intro gb295 hg w6 hbox hb; have BK295 := Aside0.mk (hbox); have GW295 := Aside0.mk ((by rw [hg]; exact (below_size (bl HB)) : w.heap.size ≤ gb295)); have GE295 := Aside0.mk ((by rw [hg]; exact (below_size (bl HB)) : w.heap.size ≤ gb295)); replace HO1_2 := ve HO1_2 hg hb; replace HO1_3 := ve HO1_3 hg hb; replace HB := Aside0.mk (below_step (bl HB) hb); clear hb hbox hg) | ((with_reducible refine gate_dst (N := 5) rfl ?_); refine box_event ?hg (N := 5) ?hd (cs := #[.int .i64 a1_0, .int .i64 a1_1, .slice A1_2 l1_2.length c1_2, .slice A1_3 l1_3.length c1_3]) (t := 27) ?hr ?_; (case hd => rfl); (case hg => rfl); (case hr => first | (go_simp; done) | (go_simp; rfl)); intro gb296 hg w7 hbox hb; have BK296 := Aside0.mk (hbox); have GW296 := Aside0.mk ((by rw [hg]; exact (below_size (bl HB)) : w.heap.size ≤ gb296)); have GE296 := Aside0.mk ((by rw [hg]; exact (below_size (bl HB)) : w.heap.size ≤ gb296)); have NB295_296 := nb BK295 hg; have NB296_295 := bn BK295 hg; replace HO1_2 := ve HO1_2 hg hb; replace HO1_3 := ve HO1_3 hg hb; replace BK295 := Aside0.mk (blk_below (bo BK295) hb); replace HB := Aside0.mk (below_step (bl HB) hb); clear hb hbox hg) | ((with_reducible refine gate_dst (N := 8) rfl ?_); refine box_event ?hg (N := 8) ?hd (cs := #[.int .i64 0, .int .i64 0, .slice none 0 0, .slice none 0 0]) (t := 27) ?hr ?_; (case hd => rfl); (case hg => rfl); (case hr => first | (go_simp; done) | (go_simp; rfl)); intro gb297 hg w8 hbox hb; have BK297 := Aside0.mk (hbox); have GW297 := Aside0.mk ((by rw [hg]; exact (below_size (bl HB)) : w.heap.size ≤ gb297)); have GE297 := Aside0.mk ((by rw [hg]; exact (below_size (bl HB)) : w.heap.size ≤ gb297)); have NB295_297 := nb BK295 hg; have NB297_295 := bn BK295 hg; have NB296_297 := nb BK296 hg; have NB297_296 := bn BK296 hg; replace HO1_2 := ve HO1_2 hg hb; replace HO1_3 := ve HO1_3 hg hb; replace BK295 := Aside0.mk (blk_below (bo BK295) hb); replace BK296 := Aside0.mk (blk_below (bo BK296) hb); replace HB := Aside0.mk (below_step (bl HB) hb); clear hb hbox hg) | ((with_reducible refine gate_dst (N := 9) rfl ?_); refine box_event ?hg (N := 9) ?hd (cs := #[.bool false, .int .i64 0, .int .i64 0, .int .i64 0]) (t := 32) ?hr ?_; (case hd => rfl); (case hg => rfl); (case hr => first | (go_simp; done) | (go_simp; rfl)); intro gb298 hg w9 hbox hb; have BK298 := Aside0.mk (hbox); have GW298 := Aside0.mk ((by rw [hg]; exact (below_size (bl HB)) : w.heap.size ≤ gb298)); have GE298 := Aside0.mk ((by rw [hg]; exact (below_size (bl HB)) : w.heap.size ≤ gb298)); have NB295_298 := nb BK295 hg; have NB298_295 := bn BK295 hg; have NB296_298 := nb BK296 hg; have NB298_296 := bn BK296 hg; have NB297_298 := nb BK297 hg; have NB298_297 := bn BK297 hg; replace HO1_2 := ve HO1_2 hg hb; replace HO1_3 := ve HO1_3 hg hb; replace BK295 := Aside0.mk (blk_below (bo BK295) hb); replace BK296 := Aside0.mk (blk_below (bo BK296) hb); replace BK297 := Aside0.mk (blk_below (bo BK297) hb); replace HB := Aside0.mk (below_step (bl HB) hb); clear hb hbox hg))
 (try simp only [Act.put, List.setIfInBounds_toArray, List.set_cons_zero, List.set_cons_succ])
 go_cut [28] (fun v28 wc => ∃ (kq : Nat) (x28_4 : Bool), v28 = .bool x28_4 ∧ Aside0 (sandglassref12_Ask.j0 kq a2 a3 x28_4 a0_0 a0_1 a0_2 a0_3 a1_0 a1_1 l1_2 l1_3 = some (r1, r2, r3, r4, r5, r6, r7, r8)) ∧ Aside0 (kq ≤ k) ∧ Aside0 (Kd.V (Kd.int .i64) 3 wc w.heap.size (fun k_ => ((P1_2_ k_ ∨ P1_3_ k_) ∨ w.heap.size ≤ k_) ∧ k_ ≠ gb295 ∧ k_ ≠ gb296 ∧ k_ ≠ gb297 ∧ k_ ≠ gb298) (.slice A1_2 l1_2.length c1_2) l1_2) ∧ Aside0 (Kd.V k54 54 wc w.heap.size (fun k_ => ((P1_2_ k_ ∨ P1_3_ k_) ∨ w.heap.size ≤ k_) ∧ k_ ≠ gb295 ∧ k_ ≠ gb296 ∧ k_ ≠ gb297 ∧ k_ ≠ gb298) (.slice A1_3 l1_3.length c1_3) l1_3) ∧ Aside0 (wc.heap[gb295]? = some (.cells #[.int .i64 a0_0, .int .i64 a0_1, .int .i64 a0_2, .int .i64 a0_3] 23 (0, 0))) ∧ Aside0 (wc.heap[gb296]? = some (.cells #[.int .i64 a1_0, .int .i64 a1_1, (.slice A1_2 l1_2.length c1_2), (.slice A1_3 l1_3.length c1_3)] 27 (0, 0))) ∧ Aside0 (wc.heap[gb297]? = some (.cells #[.int .i64 0, .int .i64 0, (.slice none 0 0), (.slice none 0 0)] 27 (0, 0))) ∧ Aside0 (wc.heap[gb298]? = some (.cells #[.bool false, .int .i64 0, .int .i64 0, .int .i64 0] 32 (0, 0))) ∧ Aside0 (Below w.heap.size w wc))
 case first =>
  have H := HC5.out
  clear HC5
  replace H := Option.bind_eq_some_iff.mp H
  obtain ⟨t299, A100, H⟩ := H
  have A10 := Aside0.mk A100
  clear A100
  by_cases c11 : t299 = true
  ·subst c11
   rw [if_pos rfl] at H
   replace H := Option.bind_eq_some_iff.mp H
   obtain ⟨t300, A120, H⟩ := H
   have A12 := Aside0.mk A120
   clear A120
   by_cases c13 : t300 = true
   ·subst c13
    rw [if_pos rfl] at H
    replace H := Option.bind_eq_some_iff.mp H
    obtain ⟨t301, A140, H⟩ := H
    have A14 := Aside0.mk A140
    clear A140
    have H' := Aside0.mk H
    clear H
    have hnb15 := NB295_296.out
    have hnc15 := NB296_295.out
    have hnb16 := NB295_297.out
    have hnc16 := NB297_295.out
    have hnb17 := NB295_298.out
    have hnc17 := NB298_295.out
    obtain ⟨hcz18_0, hcz18_1, hcz18_2, hcz18_3⟩ := ce4 BK295
    obtain ⟨hfz18_0, hfz18_1, hfz18_2, hfz18_3⟩ := fr4 BK295
    have hnb19 := NB296_297.out
    have hnc19 := NB297_296.out
    have hnb20 := NB296_298.out
    have hnc20 := NB298_296.out
    obtain ⟨hcz21_0, hcz21_1, hcz21_2, hcz21_3⟩ := ce4 BK296
    obtain ⟨hfz21_0, hfz21_1, hfz21_2, hfz21_3⟩ := fr4 BK296
    go_wp2_with (first | ((with_reducible refine gate_callee (f := 14) rfl ?_); refine goesL_ (some 17) rfl rfl Try.func14 (by kernel_rfl) rfl #[.agg #[.int .i64 a0_0, .int .i64 a0_1, .int .i64 a0_2, .int .i64 a0_3], .agg #[.int .i64 a1_0, .int .i64 a1_1, .slice A1_2 l1_2.length c1_2, .slice A1_3 l1_3.length c1_3]] rfl (by (try simp only [List.map_toArray, List.map_cons, List.map_nil]); first | done | rfl | (simp only [List.length_drop, List.length_take]; rfl)) ?_; (with_reducible refine (sandglassref12_May.calls k a0_0 a0_1 a0_2 a0_3 a1_0 a1_1 _ _ l1_2 _ _ l1_3 true _ ?side1 ?side2 ?side3 ?side4 A10.out).mono ?_); (case side1 => repeat (first | exact (Kd.V_reads' HO1_2.out).2.2 | (with_reducible refine Kd.C_alloc ?_ _) | (with_reducible refine Kd.C_drewN ?_ _) | (with_reducible refine Kd.C_drew ?_))); (case side2 => exact (Kd.V_reads' HO1_2.out).2.1); (case side3 => repeat (first | exact (Kd.V_reads' HO1_3.out).2.2 | (with_reducible refine Kd.C_alloc ?_ _) | (with_reducible refine Kd.C_drewN ?_ _) | (with_reducible refine Kd.C_drew ?_))); (case side4 => exact (Kd.V_reads' HO1_3.out).2.1); rintro e w22 ⟨rfl, hb⟩; refine ⟨_, rfl, ?_⟩; replace HO1_2 := vb HO1_2 hb; replace HO1_3 := vb HO1_3 hb; replace BK295 := Aside0.mk (blk_below (bo BK295) hb); replace BK296 := Aside0.mk (blk_below (bo BK296) hb); replace BK297 := Aside0.mk (blk_below (bo BK297) hb); replace BK298 := Aside0.mk (blk_below (bo BK298) hb); replace HB := Aside0.mk (below_step (bl HB) hb); (try clear hb); (try clear hb2); (try clear hk); (try clear hi)) | (go_at_call 27; (with_reducible refine (sandglassref10_Time.calls a2 true _ A12.out).mono ?_); rintro e w' ⟨rfl, ⟨nd, rfl⟩⟩) | (go_at_call 19; (with_reducible refine (sandglassref09_Weighs.calls a3 t301 _ A14.out).mono ?_); rintro e w' ⟨rfl, ⟨nd, rfl⟩⟩))
    go_meet
    case rel => exact ⟨_, (!t301), (by first | (with_reducible rfl) | rfl | (simp; done) | (simp [*]; done)), H', ⟨by first | omega | exact Nat.le_refl _⟩, ⟨by (with_reducible repeat (first | apply Kd.V_alloc | apply Kd.V_drewN | apply Kd.V_drew)); exact Kd.V_mono HO1_2.out (fun _ hk => ⟨hk.1.1.1.1, ⟨hk.1.1.1.2, ⟨hk.1.1.2, ⟨hk.1.2, hk.2⟩⟩⟩⟩)⟩, ⟨by (with_reducible repeat (first | apply Kd.V_alloc | apply Kd.V_drewN | apply Kd.V_drew)); exact Kd.V_mono HO1_3.out (fun _ hk => ⟨hk.1.1.1.1, ⟨hk.1.1.1.2, ⟨hk.1.1.2, ⟨hk.1.2, hk.2⟩⟩⟩⟩)⟩, ⟨bo BK295⟩, ⟨bo BK296⟩, ⟨bo BK297⟩, ⟨bo BK298⟩, ⟨bl HB⟩⟩
   ·replace c13 := Bool.eq_false_iff.mpr c13
    subst c13
    rw [if_neg (show ¬ (false = true) by decide)] at H
    have H' := Aside0.mk H
    clear H
    have hnb23 := NB295_296.out
    have hnc23 := NB296_295.out
    have hnb24 := NB295_297.out
    have hnc24 := NB297_295.out
    have hnb25 := NB295_298.out
    have hnc25 := NB298_295.out
    obtain ⟨hcz26_0, hcz26_1, hcz26_2, hcz26_3⟩ := ce4 BK295
    obtain ⟨hfz26_0, hfz26_1, hfz26_2, hfz26_3⟩ := fr4 BK295
    have hnb27 := NB296_297.out
    have hnc27 := NB297_296.out
    have hnb28 := NB296_298.out
    have hnc28 := NB298_296.out
    obtain ⟨hcz29_0, hcz29_1, hcz29_2, hcz29_3⟩ := ce4 BK296
    obtain ⟨hfz29_0, hfz29_1, hfz29_2, hfz29_3⟩ := fr4 BK296
    go_wp2_with (first | ((with_reducible refine gate_callee (f := 14) rfl ?_); refine goesL_ (some 17) rfl rfl Try.func14 (by kernel_rfl) rfl #[.agg #[.int .i64 a0_0, .int .i64 a0_1, .int .i64 a0_2, .int .i64 a0_3], .agg #[.int .i64 a1_0, .int .i64 a1_1, .slice A1_2 l1_2.length c1_2, .slice A1_3 l1_3.length c1_3]] rfl (by (try simp only [List.map_toArray, List.map_cons, List.map_nil]); first | done | rfl | (simp only [List.length_drop, List.length_take]; rfl)) ?_; (with_reducible refine (sandglassref12_May.calls k a0_0 a0_1 a0_2 a0_3 a1_0 a1_1 _ _ l1_2 _ _ l1_3 true _ ?side1 ?side2 ?side3 ?side4 A10.out).mono ?_); (case side1 => repeat (first | exact (Kd.V_reads' HO1_2.out).2.2 | (with_reducible refine Kd.C_alloc ?_ _) | (with_reducible refine Kd.C_drewN ?_ _) | (with_reducible refine Kd.C_drew ?_))); (case side2 => exact (Kd.V_reads' HO1_2.out).2.1); (case side3 => repeat (first | exact (Kd.V_reads' HO1_3.out).2.2 | (with_reducible refine Kd.C_alloc ?_ _) | (with_reducible refine Kd.C_drewN ?_ _) | (with_reducible refine Kd.C_drew ?_))); (case side4 => exact (Kd.V_reads' HO1_3.out).2.1); rintro e w30 ⟨rfl, hb⟩; refine ⟨_, rfl, ?_⟩; replace HO1_2 := vb HO1_2 hb; replace HO1_3 := vb HO1_3 hb; replace BK295 := Aside0.mk (blk_below (bo BK295) hb); replace BK296 := Aside0.mk (blk_below (bo BK296) hb); replace BK297 := Aside0.mk (blk_below (bo BK297) hb); replace BK298 := Aside0.mk (blk_below (bo BK298) hb); replace HB := Aside0.mk (below_step (bl HB) hb); (try clear hb); (try clear hb2); (try clear hk); (try clear hi)) | (go_at_call 27; (with_reducible refine (sandglassref10_Time.calls a2 false _ A12.out).mono ?_); rintro e w' ⟨rfl, ⟨nd, rfl⟩⟩))
    go_meet
    case rel => exact ⟨_, (true), (by first | (with_reducible rfl) | rfl | (simp; done) | (simp [*]; done)), H', ⟨by first | omega | exact Nat.le_refl _⟩, ⟨by (with_reducible repeat (first | apply Kd.V_alloc | apply Kd.V_drewN | apply Kd.V_drew)); exact Kd.V_mono HO1_2.out (fun _ hk => ⟨hk.1.1.1.1, ⟨hk.1.1.1.2, ⟨hk.1.1.2, ⟨hk.1.2, hk.2⟩⟩⟩⟩)⟩, ⟨by (with_reducible repeat (first | apply Kd.V_alloc | apply Kd.V_drewN | apply Kd.V_drew)); exact Kd.V_mono HO1_3.out (fun _ hk => ⟨hk.1.1.1.1, ⟨hk.1.1.1.2, ⟨hk.1.1.2, ⟨hk.1.2, hk.2⟩⟩⟩⟩)⟩, ⟨bo BK295⟩, ⟨bo BK296⟩, ⟨bo BK297⟩, ⟨bo BK298⟩, ⟨bl HB⟩⟩
  ·replace c11 := Bool.eq_false_iff.mpr c11
   subst c11
   rw [if_neg (show ¬ (false = true) by decide)] at H
   have H' := Aside0.mk H
   clear H
   have hnb31 := NB295_296.out
   have hnc31 := NB296_295.out
   have hnb32 := NB295_297.out
   have hnc32 := NB297_295.out
   have hnb33 := NB295_298.out
   have hnc33 := NB298_295.out
   obtain ⟨hcz34_0, hcz34_1, hcz34_2, hcz34_3⟩ := ce4 BK295
   obtain ⟨hfz34_0, hfz34_1, hfz34_2, hfz34_3⟩ := fr4 BK295
   have hnb35 := NB296_297.out
   have hnc35 := NB297_296.out
   have hnb36 := NB296_298.out
   have hnc36 := NB298_296.out
   obtain ⟨hcz37_0, hcz37_1, hcz37_2, hcz37_3⟩ := ce4 BK296
   obtain ⟨hfz37_0, hfz37_1, hfz37_2, hfz37_3⟩ := fr4 BK296
   go_wp2_with (first | ((with_reducible refine gate_callee (f := 14) rfl ?_); refine goesL_ (some 17) rfl rfl Try.func14 (by kernel_rfl) rfl #[.agg #[.int .i64 a0_0, .int .i64 a0_1, .int .i64 a0_2, .int .i64 a0_3], .agg #[.int .i64 a1_0, .int .i64 a1_1, .slice A1_2 l1_2.length c1_2, .slice A1_3 l1_3.length c1_3]] rfl (by (try simp only [List.map_toArray, List.map_cons, List.map_nil]); first | done | rfl | (simp only [List.length_drop, List.length_take]; rfl)) ?_; (with_reducible refine (sandglassref12_May.calls k a0_0 a0_1 a0_2 a0_3 a1_0 a1_1 _ _ l1_2 _ _ l1_3 false _ ?side1 ?side2 ?side3 ?side4 A10.out).mono ?_); (case side1 => repeat (first | exact (Kd.V_reads' HO1_2.out).2.2 | (with_reducible refine Kd.C_alloc ?_ _) | (with_reducible refine Kd.C_drewN ?_ _) | (with_reducible refine Kd.C_drew ?_))); (case side2 => exact (Kd.V_reads' HO1_2.out).2.1); (case side3 => repeat (first | exact (Kd.V_reads' HO1_3.out).2.2 | (with_reducible refine Kd.C_alloc ?_ _) | (with_reducible refine Kd.C_drewN ?_ _) | (with_reducible refine Kd.C_drew ?_))); (case side4 => exact (Kd.V_reads' HO1_3.out).2.1); rintro e w38 ⟨rfl, hb⟩; refine ⟨_, rfl, ?_⟩; replace HO1_2 := vb HO1_2 hb; replace HO1_3 := vb HO1_3 hb; replace BK295 := Aside0.mk (blk_below (bo BK295) hb); replace BK296 := Aside0.mk (blk_below (bo BK296) hb); replace BK297 := Aside0.mk (blk_below (bo BK297) hb); replace BK298 := Aside0.mk (blk_below (bo BK298) hb); replace HB := Aside0.mk (below_step (bl HB) hb); (try clear hb); (try clear hb2); (try clear hk); (try clear hi)))
   go_meet
   case rel => exact ⟨_, (true), (by first | (with_reducible rfl) | rfl | (simp; done) | (simp [*]; done)), H', ⟨by first | omega | exact Nat.le_refl _⟩, ⟨by (with_reducible repeat (first | apply Kd.V_alloc | apply Kd.V_drewN | apply Kd.V_drew)); exact Kd.V_mono HO1_2.out (fun _ hk => ⟨hk.1.1.1.1, ⟨hk.1.1.1.2, ⟨hk.1.1.2, ⟨hk.1.2, hk.2⟩⟩⟩⟩)⟩, ⟨by (with_reducible repeat (first | apply Kd.V_alloc | apply Kd.V_drewN | apply Kd.V_drew)); exact Kd.V_mono HO1_3.out (fun _ hk => ⟨hk.1.1.1.1, ⟨hk.1.1.1.2, ⟨hk.1.1.2, ⟨hk.1.2, hk.2⟩⟩⟩⟩)⟩, ⟨bo BK295⟩, ⟨bo BK296⟩, ⟨bo BK297⟩, ⟨bo BK298⟩, ⟨bl HB⟩⟩
 case rest =>
  clear HC5
  try clear c11; try clear c13; try clear hcz18_0; try clear hcz18_1; try clear hcz18_2; try clear hcz18_3; try clear hcz21_0; try clear hcz21_1; try clear hcz21_2; try clear hcz21_3; try clear hcz26_0; try clear hcz26_1; try clear hcz26_2; try clear hcz26_3; try clear hcz29_0; try clear hcz29_1; try clear hcz29_2; try clear hcz29_3; try clear hcz34_0; try clear hcz34_1; try clear hcz34_2; try clear hcz34_3; try clear hcz37_0; try clear hcz37_1; try clear hcz37_2; try clear hcz37_3; try clear hfz18_0; try clear hfz18_1; try clear hfz18_2; try clear hfz18_3; try clear hfz21_0; try clear hfz21_1; try clear hfz21_2; try clear hfz21_3; try clear hfz26_0; try clear hfz26_1; try clear hfz26_2; try clear hfz26_3; try clear hfz29_0; try clear hfz29_1; try clear hfz29_2; try clear hfz29_3; try clear hfz34_0; try clear hfz34_1; try clear hfz34_2; try clear hfz34_3; try clear hfz37_0; try clear hfz37_1; try clear hfz37_2; try clear hfz37_3
  obtain ⟨kq, x28_4, rfl, HA, HJ4, HO_297002, HO_297003, BK295, BK296, BK297, BK298, HB⟩ := hcut
  cases kq with
  | zero => exact absurd HA.out (by simp [sandglassref12_Ask.j0])
  | succ kj4 =>
   have H := HA.out
   clear HA
   simp only [sandglassref12_Ask.j0] at H
   by_cases c39 : x28_4 = true
   ·subst c39
    rw [if_pos rfl] at H
    simp only [Option.some.injEq, Prod.mk.injEq] at H
    obtain ⟨rfl, rfl, rfl, rfl, rfl, rfl, rfl, rfl⟩ := H
    have hnb40 := NB296_295.out
    have hnc40 := NB295_296.out
    have hnb41 := NB296_297.out
    have hnc41 := NB297_296.out
    have hnb42 := NB296_298.out
    have hnc42 := NB298_296.out
    obtain ⟨hcz43_0, hcz43_1, hcz43_2, hcz43_3⟩ := ce4 BK296
    obtain ⟨hfz43_0, hfz43_1, hfz43_2, hfz43_3⟩ := fr4 BK296
    have hnb44 := NB297_295.out
    have hnc44 := NB295_297.out
    have hnb45 := NB297_298.out
    have hnc45 := NB298_297.out
    obtain ⟨hcz46_0, hcz46_1, hcz46_2, hcz46_3⟩ := ce4 BK297
    obtain ⟨hfz46_0, hfz46_1, hfz46_2, hfz46_3⟩ := fr4 BK297
    have hnb47 := NB298_295.out
    have hnc47 := NB295_298.out
    obtain ⟨hcz48_0, hcz48_1, hcz48_2, hcz48_3⟩ := ce4 BK298
    obtain ⟨hfz48_0, hfz48_1, hfz48_2, hfz48_3⟩ := fr4 BK298
    go_wp2
    refine bodyPost_ret (results_cc rfl _ _ gb297 gb298 27 32 #[.int .i64 a1_0, .int .i64 a1_1, .slice A1_2 l1_2.length c1_2, .slice A1_3 l1_3.length c1_3] #[.bool false, .int .i64 0, .int .i64 0, .int .i64 0] (0, 0) (0, 0) _ _ rfl (by (with_reducible repeat (first | refine blk_drewN ?_ _ | refine blk_drew ?_ | refine blk_alloc ?_ _)); refine blk_far ?_ NB297_298.out _; (with_reducible repeat (first | refine blk_drewN ?_ _ | refine blk_drew ?_ | refine blk_alloc ?_ _)); refine blk_far ?_ NB297_298.out _; (with_reducible repeat (first | refine blk_drewN ?_ _ | refine blk_drew ?_ | refine blk_alloc ?_ _)); refine blk_far ?_ NB297_298.out _; (with_reducible repeat (first | refine blk_drewN ?_ _ | refine blk_drew ?_ | refine blk_alloc ?_ _)); refine blk_far ?_ NB297_298.out _; (with_reducible repeat (first | refine blk_drewN ?_ _ | refine blk_drew ?_ | refine blk_alloc ?_ _)); refine blk_put (cs := #[.int .i64 a1_0, .int .i64 a1_1, .slice A1_2 l1_2.length c1_2, .slice none 0 0]) ?_ 3 _ rfl; (with_reducible repeat (first | refine blk_drewN ?_ _ | refine blk_drew ?_ | refine blk_alloc ?_ _)); refine blk_put (cs := #[.int .i64 a1_0, .int .i64 a1_1, .slice none 0 0, .slice none 0 0]) ?_ 2 _ rfl; (with_reducible repeat (first | refine blk_drewN ?_ _ | refine blk_drew ?_ | refine blk_alloc ?_ _)); refine blk_put (cs := #[.int .i64 a1_0, .int .i64 0, .slice none 0 0, .slice none 0 0]) ?_ 1 _ rfl; (with_reducible repeat (first | refine blk_drewN ?_ _ | refine blk_drew ?_ | refine blk_alloc ?_ _)); refine blk_put (cs := #[.int .i64 0, .int .i64 0, .slice none 0 0, .slice none 0 0]) ?_ 0 _ rfl; (with_reducible repeat (first | refine blk_drewN ?_ _ | refine blk_drew ?_ | refine blk_alloc ?_ _)); exact BK297.out) Try.underlying27 rfl (by kernel_rfl) rfl (by (with_reducible repeat (first | refine blk_drewN ?_ _ | refine blk_drew ?_ | refine blk_alloc ?_ _)); refine blk_put (cs := #[.bool false, .int .i64 0, .int .i64 0, .int .i64 0]) ?_ 3 _ rfl; (with_reducible repeat (first | refine blk_drewN ?_ _ | refine blk_drew ?_ | refine blk_alloc ?_ _)); refine blk_put (cs := #[.bool false, .int .i64 0, .int .i64 0, .int .i64 0]) ?_ 2 _ rfl; (with_reducible repeat (first | refine blk_drewN ?_ _ | refine blk_drew ?_ | refine blk_alloc ?_ _)); refine blk_put (cs := #[.bool false, .int .i64 0, .int .i64 0, .int .i64 0]) ?_ 1 _ rfl; (with_reducible repeat (first | refine blk_drewN ?_ _ | refine blk_drew ?_ | refine blk_alloc ?_ _)); refine blk_put (cs := #[.bool false, .int .i64 0, .int .i64 0, .int .i64 0]) ?_ 0 _ rfl; (with_reducible repeat (first | refine blk_drewN ?_ _ | refine blk_drew ?_ | refine blk_alloc ?_ _)); refine blk_far ?_ NB298_297.out _; (with_reducible repeat (first | refine blk_drewN ?_ _ | refine blk_drew ?_ | refine blk_alloc ?_ _)); refine blk_far ?_ NB298_297.out _; (with_reducible repeat (first | refine blk_drewN ?_ _ | refine blk_drew ?_ | refine blk_alloc ?_ _)); refine blk_far ?_ NB298_297.out _; (with_reducible repeat (first | refine blk_drewN ?_ _ | refine blk_drew ?_ | refine blk_alloc ?_ _)); refine blk_far ?_ NB298_297.out _; (with_reducible repeat (first | refine blk_drewN ?_ _ | refine blk_drew ?_ | refine blk_alloc ?_ _)); exact BK298.out) Try.underlying32 rfl (by kernel_rfl)) rfl ?_
    exact ⟨_, _, by first | (with_reducible rfl) | rfl | (simp [errW_none, errW_some] <;> rfl) | (simp [*, errW_none, errW_some] <;> rfl), by (with_reducible repeat (first | apply Kd.V_alloc | apply Kd.V_drewN | apply Kd.V_drew)); exact Kd.V_mono (Kd.V_far (p := ⟨gb298, 3, none⟩) (Kd.V_far (p := ⟨gb298, 2, none⟩) (Kd.V_far (p := ⟨gb298, 1, none⟩) (Kd.V_far (p := ⟨gb298, 0, none⟩) (Kd.V_far (p := ⟨gb297, 3, none⟩) (Kd.V_far (p := ⟨gb297, 2, none⟩) (Kd.V_far (p := ⟨gb297, 1, none⟩) (Kd.V_far (p := ⟨gb297, 0, none⟩) (Kd.V_mono (Kd.V_mono HO_297002.out (fun k_ hk => (⟨hk, hk.2.2.2.1⟩ : _ ∧ k_ ≠ gb297))) (fun k_ hk => (⟨hk, hk.1.2.2.2.2⟩ : _ ∧ k_ ≠ gb298))) (fun _ hk => hk.1.2) (.int .i64 a1_0)) (fun _ hk => hk.1.2) (.int .i64 a1_1)) (fun _ hk => hk.1.2) (.slice A1_2 l1_2.length c1_2)) (fun _ hk => hk.1.2) (.slice A1_3 l1_3.length c1_3)) (fun _ hk => hk.2) (.bool false)) (fun _ hk => hk.2) (.int .i64 0)) (fun _ hk => hk.2) (.int .i64 0)) (fun _ hk => hk.2) (.int .i64 0)) (fun _ hk => hk.1.1.1), by (with_reducible repeat (first | apply Kd.V_alloc | apply Kd.V_drewN | apply Kd.V_drew)); exact Kd.V_mono (Kd.V_far (p := ⟨gb298, 3, none⟩) (Kd.V_far (p := ⟨gb298, 2, none⟩) (Kd.V_far (p := ⟨gb298, 1, none⟩) (Kd.V_far (p := ⟨gb298, 0, none⟩) (Kd.V_far (p := ⟨gb297, 3, none⟩) (Kd.V_far (p := ⟨gb297, 2, none⟩) (Kd.V_far (p := ⟨gb297, 1, none⟩) (Kd.V_far (p := ⟨gb297, 0, none⟩) (Kd.V_mono (Kd.V_mono HO_297003.out (fun k_ hk => (⟨hk, hk.2.2.2.1⟩ : _ ∧ k_ ≠ gb297))) (fun k_ hk => (⟨hk, hk.1.2.2.2.2⟩ : _ ∧ k_ ≠ gb298))) (fun _ hk => hk.1.2) (.int .i64 a1_0)) (fun _ hk => hk.1.2) (.int .i64 a1_1)) (fun _ hk => hk.1.2) (.slice A1_2 l1_2.length c1_2)) (fun _ hk => hk.1.2) (.slice A1_3 l1_3.length c1_3)) (fun _ hk => hk.2) (.bool false)) (fun _ hk => hk.2) (.int .i64 0)) (fun _ hk => hk.2) (.int .i64 0)) (fun _ hk => hk.2) (.int .i64 0)) (fun _ hk => hk.1.1.1), bl HB⟩
   ·replace c39 := Bool.eq_false_iff.mpr c39
    subst c39
    rw [if_neg (show ¬ (false = true) by decide)] at H
    obtain ⟨ji49, hji49⟩ : ∃ j_ : Int, (mx a2 a1_0) = j_ := ⟨_, rfl⟩
    replace H : ((sandglassref12_number.f a0_0 a0_1 a0_2 a0_3 (ji49)).bind fun t302 => (if 0 ≤ a0_3 then (if (a0_3 : Int).toNat ≤ 35184372088832 then (sandglassref12_Ask.l0 kj4 ji49 a3 t302 (mx 0 (wrap64 ((wrap64 (t302 - a0_3)) + 1))) a0_0 a0_1 a0_2 a0_3 a1_0 a1_1 l1_2 l1_3 ji49 0 (List.replicate (a0_3 : Int).toNat 0)) else (none)) else (none))) = some (r1, r2, r3, r4, r5, r6, r7, r8) := by first | (rw [hji49] at H; exact H) | (simp only [hji49] at H ⊢; exact H)
    have hji49_ : (if a2 < a1_0 then a1_0 else a2) = ji49 := hji49
    replace H := Option.bind_eq_some_iff.mp H
    obtain ⟨t302, A500, H⟩ := H
    have A50 := Aside0.mk A500
    clear A500
    by_cases c51 : 0 ≤ a0_3
    ·rw [if_pos c51] at H
     have c51b0 := eq_true c51
     have c51b1 : decide (0 ≤ a0_3) = true := decide_eq_true c51
     clear c51
     by_cases c52 : (a0_3 : Int).toNat ≤ 35184372088832
     ·rw [if_pos c52] at H
      have c52b0 := eq_true c52
      have c52b1 : decide ((a0_3 : Int).toNat ≤ 35184372088832) = true := decide_eq_true c52
      clear c52
      obtain ⟨y303, hy303⟩ : ∃ y_ : List Int, y_ = (List.replicate (a0_3 : Int).toNat 0) := ⟨_, rfl⟩
      replace H : (sandglassref12_Ask.l0 kj4 ji49 a3 t302 (mx 0 (wrap64 ((wrap64 (t302 - a0_3)) + 1))) a0_0 a0_1 a0_2 a0_3 a1_0 a1_1 l1_2 l1_3 ji49 0 y303) = some (r1, r2, r3, r4, r5, r6, r7, r8) := by first | (rw [hy303]; with_reducible exact H) | (have H2_ := (Option.bind_some _ _).symm.trans H; rw [hy303]; with_reducible exact H2_) | (have H2_ := (Option.bind_some _ _).symm.trans H; with_reducible exact H2_) | with_reducible exact H | (rw [hy303]; exact H) | exact H
      have Ny303 := Aside0.mk hy303
      clear hy303
      obtain ⟨ji53, hji53⟩ : ∃ j_ : Int, (mx 0 (wrap64 ((wrap64 (t302 - a0_3)) + 1))) = j_ := ⟨_, rfl⟩
      replace H : (sandglassref12_Ask.l0 kj4 ji49 a3 t302 ji53 a0_0 a0_1 a0_2 a0_3 a1_0 a1_1 l1_2 l1_3 ji49 0 y303) = some (r1, r2, r3, r4, r5, r6, r7, r8) := by first | (rw [hji53] at H; exact H) | (simp only [hji53] at H ⊢; exact H)
      (try rw [hji53] at A50)
      have hji53_ : (if 0 < (wrap64 ((wrap64 (t302 - a0_3)) + 1)) then (wrap64 ((wrap64 (t302 - a0_3)) + 1)) else 0) = ji53 := hji53
      have H' := Aside0.mk H
      clear H
      have hnb54 := NB296_295.out
      have hnc54 := NB295_296.out
      have hnb55 := NB296_297.out
      have hnc55 := NB297_296.out
      have hnb56 := NB296_298.out
      have hnc56 := NB298_296.out
      obtain ⟨hcz57_0, hcz57_1, hcz57_2, hcz57_3⟩ := ce4 BK296
      obtain ⟨hfz57_0, hfz57_1, hfz57_2, hfz57_3⟩ := fr4 BK296
      have hnb58 := NB295_297.out
      have hnc58 := NB297_295.out
      have hnb59 := NB295_298.out
      have hnc59 := NB298_295.out
      obtain ⟨hcz60_0, hcz60_1, hcz60_2, hcz60_3⟩ := ce4 BK295
      obtain ⟨hfz60_0, hfz60_1, hfz60_2, hfz60_3⟩ := fr4 BK295
      go_wp2_with (first | ((with_reducible refine gate_callee (f := 28) rfl ?_); refine goesL_ (some 37) rfl rfl Try.func28 (by kernel_rfl) rfl #[.agg #[.int .i64 a0_0, .int .i64 a0_1, .int .i64 a0_2, .int .i64 a0_3], .int .i64 ji49] rfl (by (try simp only [List.map_toArray, List.map_cons, List.map_nil]); first | done | (simp only [hji49]; rfl) | rfl | (simp only [List.length_drop, List.length_take]; rfl)) ?_; (with_reducible refine (sandglassref12_number.calls a0_0 a0_1 a0_2 a0_3 ji49 t302 _ A50.out).mono ?_); rintro e w61 ⟨rfl, hb⟩; refine ⟨_, rfl, ?_⟩; replace HO_297002 := vb HO_297002 hb; replace HO_297003 := vb HO_297003 hb; replace BK295 := Aside0.mk (blk_below (bo BK295) hb); replace BK296 := Aside0.mk (blk_below (bo BK296) hb); replace BK297 := Aside0.mk (blk_below (bo BK297) hb); replace BK298 := Aside0.mk (blk_below (bo BK298) hb); replace HB := Aside0.mk (below_step (bl HB) hb); (try clear hb); (try clear hb2); (try clear hk); (try clear hi); obtain ⟨hcz62_0, hcz62_1, hcz62_2, hcz62_3⟩ := ce4 BK295; obtain ⟨hfz62_0, hfz62_1, hfz62_2, hfz62_3⟩ := fr4 BK295) | ((with_reducible refine gate_dst (N := 41) rfl ?_); refine Kd.R_make (Kd.int .i64) _ 3 rfl (N := 41) rfl 24 _ _ rfl a0_3 rfl rfl Try.underlying24 (.int .i64 0) 8 info3 rfl (by decide) (by omega) 0 (ok := fun _ => True) (okp := fun _ => True) rfl (fun _ hk => hk) trivial (of_decide_eq_true (by first | (with_reducible assumption) | assumption)) (Nat.le_trans (Nat.mul_le_mul_right _ (of_decide_eq_true (by first | (with_reducible assumption) | assumption) : a0_3.toNat ≤ 35184372088832)) (by omega)) (Below.refl _ _) (Nat.le_refl _) ?_; intro v304 w63 ho64 hb hg_ hnew_; clear hg_ hnew_; (first | rw [← Ny303.out] at ho64 | (simp only [Int.reduceToNat] at ho64; rw [← Ny303.out] at ho64)); have HO305 := Aside0.mk (Kd.R_lower (Kd.R_newM (M := fun k_ => (w.heap.size ≤ k_)) ho64 (below_size (bl HB)) (fun k_ h_ => h_)) (below_size (bl HB))); replace HO_297002 := Aside0.mk (Kd.V_elder' (by (with_reducible repeat (first | apply Kd.V_alloc | apply Kd.V_drewN | apply Kd.V_drew)); exact HO_297002.out) (Kd.R_base ho64) hb); replace HO_297003 := Aside0.mk (Kd.V_elder' (by (with_reducible repeat (first | apply Kd.V_alloc | apply Kd.V_drewN | apply Kd.V_drew)); exact HO_297003.out) (Kd.R_base ho64) hb); replace BK295 := Aside0.mk (blk_below (bo BK295) hb); replace BK296 := Aside0.mk (blk_below (bo BK296) hb); replace BK297 := Aside0.mk (blk_below (bo BK297) hb); replace BK298 := Aside0.mk (blk_below (bo BK298) hb); replace HB := Aside0.mk (below_step (bl HB) hb); clear hb ho64; obtain ⟨Ao65, co65, eo65⟩ := Kd.R_slice HO305.out; subst eo65) | ((with_reducible refine gate_dst (N := 11) rfl ?_); refine box_event ?hg (N := 11) ?hd (cs := #[.int .i64 0, .int .i64 0, .slice none 0 0, .slice none 0 0]) (t := 27) ?hr ?_; (case hd => rfl); (case hg => rfl); (case hr => first | (go_simp; done) | (go_simp; rfl)); intro gb306 hg w66 hbox hb; have BK306 := Aside0.mk (hbox); have GW306 := Aside0.mk ((by rw [hg]; exact (below_size (bl HB)) : w.heap.size ≤ gb306)); have GE306 := Aside0.mk ((by rw [hg]; exact (below_size (bl HB)) : w.heap.size ≤ gb306)); have NB295_306 := nb BK295 hg; have NB306_295 := bn BK295 hg; have NB296_306 := nb BK296 hg; have NB306_296 := bn BK296 hg; have NB297_306 := nb BK297 hg; have NB306_297 := bn BK297 hg; have NB298_306 := nb BK298 hg; have NB306_298 := bn BK298 hg; replace HO_297002 := ve HO_297002 hg hb; replace HO_297003 := ve HO_297003 hg hb; replace HO305 := Aside0.mk (Kd.R_below (by (with_reducible repeat (first | apply Kd.R_alloc | apply Kd.R_drewN | apply Kd.R_drew)); exact HO305.out) hb); replace BK295 := Aside0.mk (blk_below (bo BK295) hb); replace BK296 := Aside0.mk (blk_below (bo BK296) hb); replace BK297 := Aside0.mk (blk_below (bo BK297) hb); replace BK298 := Aside0.mk (blk_below (bo BK298) hb); replace HB := Aside0.mk (below_step (bl HB) hb); clear hb hbox hg; have hnb67 := NB306_295.out; have hnc67 := NB295_306.out; have hnb68 := NB306_296.out; have hnc68 := NB296_306.out; have hnb69 := NB306_297.out; have hnc69 := NB297_306.out; have hnb70 := NB306_298.out; have hnc70 := NB298_306.out; obtain ⟨hcz71_0, hcz71_1, hcz71_2, hcz71_3⟩ := ce4 BK306; obtain ⟨hfz71_0, hfz71_1, hfz71_2, hfz71_3⟩ := fr4 BK306; obtain ⟨hcz72_0, hcz72_1, hcz72_2, hcz72_3⟩ := ce4 BK295; obtain ⟨hfz72_0, hfz72_1, hfz72_2, hfz72_3⟩ := fr4 BK295))
      go_loopg [12] kj4 (fun kq v12 w' => ∃ (x12_2 : Int) (x297002_2 : List Int) (x307002_2 : List Int) (u297002 : Value) (u307002 : Value), v12 = .int .i64 x12_2 ∧ Aside0 (sandglassref12_Ask.l0 kq ji49 a3 t302 x12_2 a0_0 a0_1 a0_2 a0_3 a1_0 a1_1 x297002_2 l1_3 ji49 0 x307002_2 = some (r1, r2, r3, r4, r5, r6, r7, r8)) ∧ Aside0 (kq ≤ kj4) ∧ Aside0 (Kd.V (Kd.int .i64) 3 w' w.heap.size (fun k_ => ((P1_2_ k_ ∨ P1_3_ k_) ∨ w.heap.size ≤ k_) ∧ some k_ ≠ (u307002 : Value).ownBlock ∧ k_ ≠ gb295 ∧ k_ ≠ gb296 ∧ k_ ≠ gb297 ∧ k_ ≠ gb298 ∧ k_ ≠ gb306) u297002 x297002_2) ∧ Aside0 (Kd.V k54 54 w' w.heap.size (fun k_ => ((P1_2_ k_ ∨ P1_3_ k_) ∨ w.heap.size ≤ k_) ∧ some k_ ≠ (u307002 : Value).ownBlock ∧ k_ ≠ gb295 ∧ k_ ≠ gb296 ∧ k_ ≠ gb297 ∧ k_ ≠ gb298 ∧ k_ ≠ gb306) (.slice A1_3 l1_3.length c1_3) l1_3) ∧ Aside0 (Kd.R (Kd.int .i64) 3 w' w.heap.size (fun k_ => (w.heap.size ≤ k_)) u307002 x307002_2) ∧ Aside0 (w'.heap[gb295]? = some (.cells #[.int .i64 a0_0, .int .i64 a0_1, .int .i64 a0_2, .int .i64 a0_3] 23 (0, 0))) ∧ Aside0 (w'.heap[gb296]? = some (.cells #[.int .i64 a1_0, .int .i64 a1_1, u297002, (.slice A1_3 l1_3.length c1_3)] 27 (0, 0))) ∧ Aside0 (w'.heap[gb297]? = some (.cells #[.int .i64 0, .int .i64 0, (.slice none 0 0), (.slice none 0 0)] 27 (0, 0))) ∧ Aside0 (w'.heap[gb298]? = some (.cells #[.bool false, .int .i64 0, .int .i64 0, .int .i64 0] 32 (0, 0))) ∧ Aside0 (w'.heap[gb306]? = some (.cells #[.int .i64 ji49, .int .i64 0, u307002, (.slice none 0 0)] 27 (0, 0))) ∧ Aside0 (Below w.heap.size w w'))
      case atStart => exact ⟨(ji53), (l1_2), (y303), (.slice A1_2 l1_2.length c1_2), (.slice Ao65 y303.length co65), (by first | (with_reducible rfl) | (simp only [← hji53]; with_reducible rfl) | (simp only [← hji53]; done) | rfl | (simp; done) | (simp only [← hji53] <;> (first | rfl | simp)) | (simp [*]; done)), H', ⟨Nat.le_refl _⟩, ⟨by (with_reducible repeat (first | apply Kd.V_alloc | apply Kd.V_drewN | apply Kd.V_drew)); exact Kd.V_mono (Kd.V_far (p := ⟨gb306, 3, none⟩) (Kd.V_far (p := ⟨gb306, 2, none⟩) (Kd.V_far (p := ⟨gb306, 1, none⟩) (Kd.V_far (p := ⟨gb306, 0, none⟩) (Kd.V_mono HO_297002.out (fun k_ hk => (⟨hk, hk.2⟩ : _ ∧ k_ ≠ gb306))) (fun _ hk => hk.2) (.int .i64 ji49)) (fun _ hk => hk.2) (.int .i64 0)) (fun _ hk => hk.2) (.slice Ao65 y303.length co65)) (fun _ hk => hk.2) (.slice none 0 0)) (fun _ hk => ⟨hk.1.1.1.1, ⟨hk.1.1.2, ⟨hk.1.1.1.2.1, ⟨hk.1.1.1.2.2.1, ⟨hk.1.1.1.2.2.2.1, ⟨hk.1.1.1.2.2.2.2, hk.1.2⟩⟩⟩⟩⟩⟩)⟩, ⟨by (with_reducible repeat (first | apply Kd.V_alloc | apply Kd.V_drewN | apply Kd.V_drew)); exact Kd.V_mono (Kd.V_far (p := ⟨gb306, 3, none⟩) (Kd.V_far (p := ⟨gb306, 2, none⟩) (Kd.V_far (p := ⟨gb306, 1, none⟩) (Kd.V_far (p := ⟨gb306, 0, none⟩) (Kd.V_mono HO_297003.out (fun k_ hk => (⟨hk, hk.2⟩ : _ ∧ k_ ≠ gb306))) (fun _ hk => hk.2) (.int .i64 ji49)) (fun _ hk => hk.2) (.int .i64 0)) (fun _ hk => hk.2) (.slice Ao65 y303.length co65)) (fun _ hk => hk.2) (.slice none 0 0)) (fun _ hk => ⟨hk.1.1.1.1, ⟨hk.1.1.2, ⟨hk.1.1.1.2.1, ⟨hk.1.1.1.2.2.1, ⟨hk.1.1.1.2.2.2.1, ⟨hk.1.1.1.2.2.2.2, hk.1.2⟩⟩⟩⟩⟩⟩)⟩, ⟨by (with_reducible repeat (first | apply Kd.R_alloc | apply Kd.R_drewN | apply Kd.R_drew)); exact Kd.R_mono (Kd.R_far (p := ⟨gb306, 3, none⟩) (Kd.R_far (p := ⟨gb306, 2, none⟩) (Kd.R_far (p := ⟨gb306, 1, none⟩) (Kd.R_far (p := ⟨gb306, 0, none⟩) (Kd.R_types HO305.out BK306.out (by decide)) (fun _ hk => hk.2) (.int .i64 ji49)) (fun _ hk => hk.2) (.int .i64 0)) (fun _ hk => hk.2) (.slice Ao65 y303.length co65)) (fun _ hk => hk.2) (.slice none 0 0)) (fun _ hk => hk.1.1)⟩, ⟨by (with_reducible repeat (first | refine blk_drewN ?_ _ | refine blk_drew ?_ | refine blk_alloc ?_ _)); refine blk_far ?_ NB295_306.out _; (with_reducible repeat (first | refine blk_drewN ?_ _ | refine blk_drew ?_ | refine blk_alloc ?_ _)); refine blk_far ?_ NB295_306.out _; (with_reducible repeat (first | refine blk_drewN ?_ _ | refine blk_drew ?_ | refine blk_alloc ?_ _)); refine blk_far ?_ NB295_306.out _; (with_reducible repeat (first | refine blk_drewN ?_ _ | refine blk_drew ?_ | refine blk_alloc ?_ _)); refine blk_far ?_ NB295_306.out _; (with_reducible repeat (first | refine blk_drewN ?_ _ | refine blk_drew ?_ | refine blk_alloc ?_ _)); exact BK295.out⟩, ⟨by (with_reducible repeat (first | refine blk_drewN ?_ _ | refine blk_drew ?_ | refine blk_alloc ?_ _)); refine blk_far ?_ NB296_306.out _; (with_reducible repeat (first | refine blk_drewN ?_ _ | refine blk_drew ?_ | refine blk_alloc ?_ _)); refine blk_far ?_ NB296_306.out _; (with_reducible repeat (first | refine blk_drewN ?_ _ | refine blk_drew ?_ | refine blk_alloc ?_ _)); refine blk_far ?_ NB296_306.out _; (with_reducible repeat (first | refine blk_drewN ?_ _ | refine blk_drew ?_ | refine blk_alloc ?_ _)); refine blk_far ?_ NB296_306.out _; (with_reducible repeat (first | refine blk_drewN ?_ _ | refine blk_drew ?_ | refine blk_alloc ?_ _)); exact BK296.out⟩, ⟨by (with_reducible repeat (first | refine blk_drewN ?_ _ | refine blk_drew ?_ | refine blk_alloc ?_ _)); refine blk_far ?_ NB297_306.out _; (with_reducible repeat (first | refine blk_drewN ?_ _ | refine blk_drew ?_ | refine blk_alloc ?_ _)); refine blk_far ?_ NB297_306.out _; (with_reducible repeat (first | refine blk_drewN ?_ _ | refine blk_drew ?_ | refine blk_alloc ?_ _)); refine blk_far ?_ NB297_306.out _; (with_reducible repeat (first | refine blk_drewN ?_ _ | refine blk_drew ?_ | refine blk_alloc ?_ _)); refine blk_far ?_ NB297_306.out _; (with_reducible repeat (first | refine blk_drewN ?_ _ | refine blk_drew ?_ | refine blk_alloc ?_ _)); exact BK297.out⟩, ⟨by (with_reducible repeat (first | refine blk_drewN ?_ _ | refine blk_drew ?_ | refine blk_alloc ?_ _)); refine blk_far ?_ NB298_306.out _; (with_reducible repeat (first | refine blk_drewN ?_ _ | refine blk_drew ?_ | refine blk_alloc ?_ _)); refine blk_far ?_ NB298_306.out _; (with_reducible repeat (first | refine blk_drewN ?_ _ | refine blk_drew ?_ | refine blk_alloc ?_ _)); refine blk_far ?_ NB298_306.out _; (with_reducible repeat (first | refine blk_drewN ?_ _ | refine blk_drew ?_ | refine blk_alloc ?_ _)); refine blk_far ?_ NB298_306.out _; (with_reducible repeat (first | refine blk_drewN ?_ _ | refine blk_drew ?_ | refine blk_alloc ?_ _)); exact BK298.out⟩, ⟨by (with_reducible repeat (first | refine blk_drewN ?_ _ | refine blk_drew ?_ | refine blk_alloc ?_ _)); refine blk_put (cs := #[.int .i64 ji49, .int .i64 0, .slice Ao65 y303.length co65, .slice none 0 0]) ?_ 3 _ rfl; (with_reducible repeat (first | refine blk_drewN ?_ _ | refine blk_drew ?_ | refine blk_alloc ?_ _)); refine blk_put (cs := #[.int .i64 ji49, .int .i64 0, .slice none 0 0, .slice none 0 0]) ?_ 2 _ rfl; (with_reducible repeat (first | refine blk_drewN ?_ _ | refine blk_drew ?_ | refine blk_alloc ?_ _)); refine blk_put (cs := #[.int .i64 ji49, .int .i64 0, .slice none 0 0, .slice none 0 0]) ?_ 1 _ rfl; (with_reducible repeat (first | refine blk_drewN ?_ _ | refine blk_drew ?_ | refine blk_alloc ?_ _)); refine blk_put (cs := #[.int .i64 0, .int .i64 0, .slice none 0 0, .slice none 0 0]) ?_ 0 _ rfl; (with_reducible repeat (first | refine blk_drewN ?_ _ | refine blk_drew ?_ | refine blk_alloc ?_ _)); exact BK306.out⟩, ⟨bl HB⟩⟩
      case round =>
       clear H'
       try clear c11; try clear c13; try clear c39; try clear c51; try clear c51b0; try clear c51b1; try clear c52; try clear c52b0; try clear c52b1; try clear hcz18_0; try clear hcz18_1; try clear hcz18_2; try clear hcz18_3; try clear hcz21_0; try clear hcz21_1; try clear hcz21_2; try clear hcz21_3; try clear hcz26_0; try clear hcz26_1; try clear hcz26_2; try clear hcz26_3; try clear hcz29_0; try clear hcz29_1; try clear hcz29_2; try clear hcz29_3; try clear hcz34_0; try clear hcz34_1; try clear hcz34_2; try clear hcz34_3; try clear hcz37_0; try clear hcz37_1; try clear hcz37_2; try clear hcz37_3; try clear hcz43_0; try clear hcz43_1; try clear hcz43_2; try clear hcz43_3; try clear hcz46_0; try clear hcz46_1; try clear hcz46_2; try clear hcz46_3; try clear hcz48_0; try clear hcz48_1; try clear hcz48_2; try clear hcz48_3; try clear hcz57_0; try clear hcz57_1; try clear hcz57_2; try clear hcz57_3; try clear hcz60_0; try clear hcz60_1; try clear hcz60_2; try clear hcz60_3; try clear hcz62_0; try clear hcz62_1; try clear hcz62_2; try clear hcz62_3; try clear hcz71_0; try clear hcz71_1; try clear hcz71_2; try clear hcz71_3; try clear hcz72_0; try clear hcz72_1; try clear hcz72_2; try clear hcz72_3; try clear hfz18_0; try clear hfz18_1; try clear hfz18_2; try clear hfz18_3; try clear hfz21_0; try clear hfz21_1; try clear hfz21_2; try clear hfz21_3; try clear hfz26_0; try clear hfz26_1; try clear hfz26_2; try clear hfz26_3; try clear hfz29_0; try clear hfz29_1; try clear hfz29_2; try clear hfz29_3; try clear hfz34_0; try clear hfz34_1; try clear hfz34_2; try clear hfz34_3; try clear hfz37_0; try clear hfz37_1; try clear hfz37_2; try clear hfz37_3; try clear hfz43_0; try clear hfz43_1; try clear hfz43_2; try clear hfz43_3; try clear hfz46_0; try clear hfz46_1; try clear hfz46_2; try clear hfz46_3; try clear hfz48_0; try clear hfz48_1; try clear hfz48_2; try clear hfz48_3; try clear hfz57_0; try clear hfz57_1; try clear hfz57_2; try clear hfz57_3; try clear hfz60_0; try clear hfz60_1; try clear hfz60_2; try clear hfz60_3; try clear hfz62_0; try clear hfz62_1; try clear hfz62_2; try clear hfz62_3; try clear hfz71_0; try clear hfz71_1; try clear hfz71_2; try clear hfz71_3; try clear hfz72_0; try clear hfz72_1; try clear hfz72_2; try clear hfz72_3
       obtain ⟨x12_2, x297002_2, x307002_2, u297002, u307002, rfl, HA, HK2, HO_297002, HO_297003, HO_307002, BK295, BK296, BK297, BK298, BK306, HB⟩ := hrel
       cases gk with
       | zero => exact absurd HA.out (by simp [sandglassref12_Ask.l0])
       | succ k2 =>
        have H := HA.out
        clear HA
        simp only [sandglassref12_Ask.l0] at H
        by_cases c73 : x12_2 ≤ t302
        ·rw [if_pos c73] at H
         have c73b0 : decide (x12_2 ≤ t302) = true := decide_eq_true c73
         clear c73
         replace H := Option.bind_eq_some_iff.mp H
         obtain ⟨t307, A740, H⟩ := H
         have A74 := Aside0.mk A740
         clear A740
         by_cases c75 : x12_2 > (wrap64 (t307 - a0_3))
         ·rw [if_pos c75] at H
          have c75b0 : decide ((wrap64 (t307 - a0_3)) < x12_2) = true := decide_eq_true c75
          clear c75
          by_cases c76 : a0_3 = 0
          ·rw [if_pos c76] at H
           exact absurd H (by simp)
          ·rw [if_neg c76] at H
           have c76b0 : (a0_3 == 0) = false := beq_eq_false_iff_ne.mpr c76
           have c76b1 : (a0_3 != 0) = true := bne_iff_ne.mpr c76
           replace H := Option.bind_eq_some_iff.mp H
           obtain ⟨t308, A770, H⟩ := H
           have A77 := Aside0.mk A770
           clear A770
           obtain ⟨ji78, hji78⟩ : ∃ j_ : Int, (Int.tmod x12_2 a0_3) = j_ := ⟨_, rfl⟩
           replace H : (if 0 ≤ (ji78) then (if (ji78) < (x307002_2.length : Int) then (sandglassref12_Ask.l0 k2 ji49 a3 t302 (wrap64 (x12_2 + 1)) a0_0 a0_1 a0_2 a0_3 a1_0 a1_1 x297002_2 l1_3 ji49 0 (x307002_2.set ((ji78) : Int).toNat t308)) else (none)) else (none)) = some (r1, r2, r3, r4, r5, r6, r7, r8) := by first | (rw [hji78] at H; exact H) | (simp only [hji78] at H ⊢; exact H)
           (try rw [hji78] at A74)
           (try rw [hji78] at A77)
           by_cases c79 : 0 ≤ (ji78)
           ·rw [if_pos c79] at H
            have c79b0 : decide (0 ≤ (ji78)) = true := decide_eq_true c79
            clear c79
            by_cases c80 : (ji78) < (x307002_2.length : Int)
            ·rw [if_pos c80] at H
             have c80b0 : decide ((ji78) < (x307002_2.length : Int)) = true := decide_eq_true c80
             clear c80
             obtain ⟨y309, hy309⟩ : ∃ y_ : List Int, y_ = (x307002_2.set ((ji78) : Int).toNat t308) := ⟨_, rfl⟩
             replace H : (sandglassref12_Ask.l0 k2 ji49 a3 t302 (wrap64 (x12_2 + 1)) a0_0 a0_1 a0_2 a0_3 a1_0 a1_1 x297002_2 l1_3 ji49 0 y309) = some (r1, r2, r3, r4, r5, r6, r7, r8) := by first | (rw [hy309]; with_reducible exact H) | (have H2_ := (Option.bind_some _ _).symm.trans H; rw [hy309]; with_reducible exact H2_) | (have H2_ := (Option.bind_some _ _).symm.trans H; with_reducible exact H2_) | with_reducible exact H | (rw [hy309]; exact H) | exact H
             have Ny309 := Aside0.mk hy309
             clear hy309
             have H' := Aside0.mk H
             clear H
             try go_wp2
             replace HO_297002 := Aside0.mk (Kd.V_drew HO_297002.out)
             replace HO_297003 := Aside0.mk (Kd.V_drew HO_297003.out)
             replace HO_307002 := Aside0.mk (Kd.R_drew HO_307002.out)
             replace BK295 := Aside0.mk (blk_drew BK295.out)
             replace BK296 := Aside0.mk (blk_drew BK296.out)
             replace BK297 := Aside0.mk (blk_drew BK297.out)
             replace BK298 := Aside0.mk (blk_drew BK298.out)
             replace BK306 := Aside0.mk (blk_drew BK306.out)
             replace HB := Aside0.mk (below_drew1 HB.out)
             refine start_ (n := 9) (S := fun w' => w'.cell? ⟨gb295, 0, none⟩ = some (.int .i64 a0_0) ∧ w'.cell? ⟨gb295, 1, none⟩ = some (.int .i64 a0_1) ∧ w'.cell? ⟨gb295, 2, none⟩ = some (.int .i64 a0_2) ∧ w'.cell? ⟨gb295, 3, none⟩ = some (.int .i64 a0_3) ∧ w'.cell? ⟨gb296, 0, none⟩ = some (.int .i64 a1_0) ∧ w'.cell? ⟨gb296, 1, none⟩ = some (.int .i64 a1_1) ∧ w'.cell? ⟨gb296, 2, none⟩ = some (u297002) ∧ w'.cell? ⟨gb296, 3, none⟩ = some (.slice A1_3 l1_3.length c1_3)) (ds := []) #[false, false, false, false, false, false, false, false, false] (by kernel_rfl) rfl rfl ⟨(blk_cell BK295.out 0).trans rfl, (blk_cell BK295.out 1).trans rfl, (blk_cell BK295.out 2).trans rfl, (blk_cell BK295.out 3).trans rfl, (blk_cell BK296.out 0).trans rfl, (blk_cell BK296.out 1).trans rfl, (blk_cell BK296.out 2).trans rfl, (blk_cell BK296.out 3).trans rfl⟩ (fun hHeld => ?_); refine with_tabW sandglassref12_Ask.tab9 sandglassref12_Ask.bits9 (fun HT_ HW_ => ?_)
             generalize wr.drew = w82 at HO_297002 HO_297003 HO_307002 BK295 BK296 BK297 BK298 BK306 HB hHeld ⊢
             refine pureA 0 54 HT_ ?_
             refine pureA 2 56 HT_ ?_
             refine pureA 5 59 HT_ ?_
             refine takeA 1 55 HT_ HW_ hHeld ?_
             refine takeA 3 57 HT_ HW_ hHeld ?_
             refine takeA 6 60 HT_ HW_ hHeld ?_
             refine one_ (i := 4) (N := some 58) #[true, true, true, true, true, true, true, false, false] rfl rfl (one_of HT_.out (by kernel_rfl)) (by decide) (fun K hK => ?_)
             refine goes_ Try.func28 (by kernel_rfl) rfl #[.agg #[.int .i64 a0_0, .int .i64 a0_1, .int .i64 a0_2, .int .i64 a0_3], .int .i64 a1_0] (by rfl) rfl rfl (by (try simp only [List.map_toArray, List.map_cons, List.map_nil]); first | done | rfl | (simp only [List.length_drop, List.length_take]; rfl)) ?_
             with_reducible refine (sandglassref12_number.calls a0_0 a0_1 a0_2 a0_3 a1_0 t307 _ A74.out).mono ?_
             rintro e w83 ⟨rfl, hb⟩
             refine ⟨_, rfl, ?_⟩
             replace HO_297002 := vb HO_297002 hb
             replace HO_297003 := vb HO_297003 hb
             replace HO_307002 := Aside0.mk (Kd.R_below (by (with_reducible repeat (first | apply Kd.R_alloc | apply Kd.R_drewN | apply Kd.R_drew)); exact HO_307002.out) hb)
             replace BK295 := Aside0.mk (blk_below (bo BK295) hb)
             replace BK296 := Aside0.mk (blk_below (bo BK296) hb)
             replace BK297 := Aside0.mk (blk_below (bo BK297) hb)
             replace BK298 := Aside0.mk (blk_below (bo BK298) hb)
             replace BK306 := Aside0.mk (blk_below (bo BK306) hb)
             replace HB := Aside0.mk (below_step (bl HB) hb)
             (try clear hb)
             (try clear hb2)
             (try clear hk)
             (try clear hi)
             refine hK.out _ _ ⟨(blk_cell BK295.out 0).trans rfl, (blk_cell BK295.out 1).trans rfl, (blk_cell BK295.out 2).trans rfl, (blk_cell BK295.out 3).trans rfl, (blk_cell BK296.out 0).trans rfl, (blk_cell BK296.out 1).trans rfl, (blk_cell BK296.out 2).trans rfl, (blk_cell BK296.out 3).trans rfl⟩ (fun hHeld => ?_)
             clear hK K
             refine norm_ (a' := ?_) ?_ ?_
             rotate_left
             ·show Act.put _ (some 58) _ = _
              simp only [Act.put, List.setIfInBounds_toArray, List.set_cons_zero, List.set_cons_succ, i64_w, i32_w]
              rfl
             refine pureA 7 61 HT_ ?_
             refine pureA 8 62 HT_ ?_
             refine done_ (done_of HT_.out (by kernel_rfl)) ?_
             try go_wp2
             replace HO_297002 := Aside0.mk (Kd.V_drew HO_297002.out)
             replace HO_297003 := Aside0.mk (Kd.V_drew HO_297003.out)
             replace HO_307002 := Aside0.mk (Kd.R_drew HO_307002.out)
             replace BK295 := Aside0.mk (blk_drew BK295.out)
             replace BK296 := Aside0.mk (blk_drew BK296.out)
             replace BK297 := Aside0.mk (blk_drew BK297.out)
             replace BK298 := Aside0.mk (blk_drew BK298.out)
             replace BK306 := Aside0.mk (blk_drew BK306.out)
             replace HB := Aside0.mk (below_drew1 HB.out)
             obtain ⟨Ao85, co85, eo85⟩ := Kd.V_slice HO_297002.out
             (first | subst eo85 | (injection eo85 with f1_ f2_ f3_; have f4_ := f1_.symm; have f5_ := f3_.symm; clear f1_ f2_ f3_; subst f4_; subst f5_))
             refine start_ (n := 12) (S := fun w' => w'.cell? ⟨gb306, 0, none⟩ = some (.int .i64 ji49) ∧ w'.cell? ⟨gb306, 1, none⟩ = some (.int .i64 0) ∧ w'.cell? ⟨gb306, 2, none⟩ = some (u307002) ∧ w'.cell? ⟨gb306, 3, none⟩ = some (.slice none 0 0) ∧ w'.cell? ⟨gb295, 0, none⟩ = some (.int .i64 a0_0) ∧ w'.cell? ⟨gb295, 1, none⟩ = some (.int .i64 a0_1) ∧ w'.cell? ⟨gb295, 2, none⟩ = some (.int .i64 a0_2) ∧ w'.cell? ⟨gb295, 3, none⟩ = some (.int .i64 a0_3) ∧ w'.cell? ⟨gb296, 0, none⟩ = some (.int .i64 a1_0) ∧ w'.cell? ⟨gb296, 1, none⟩ = some (.int .i64 a1_1) ∧ w'.cell? ⟨gb296, 2, none⟩ = some (.slice Ao85 x297002_2.length co85) ∧ w'.cell? ⟨gb296, 3, none⟩ = some (.slice A1_3 l1_3.length c1_3)) (ds := [11]) #[false, false, false, false, false, false, false, false, false, false, false, false] (by kernel_rfl) rfl rfl ⟨(blk_cell BK306.out 0).trans rfl, (blk_cell BK306.out 1).trans rfl, (blk_cell BK306.out 2).trans rfl, (blk_cell BK306.out 3).trans rfl, (blk_cell BK295.out 0).trans rfl, (blk_cell BK295.out 1).trans rfl, (blk_cell BK295.out 2).trans rfl, (blk_cell BK295.out 3).trans rfl, (blk_cell BK296.out 0).trans rfl, (blk_cell BK296.out 1).trans rfl, (blk_cell BK296.out 2).trans rfl, (blk_cell BK296.out 3).trans rfl⟩ (fun hHeld => ?_); refine with_tabW sandglassref12_Ask.tab10 sandglassref12_Ask.bits10 (fun HT_ HW_ => ?_)
             generalize w83.drew = w84 at HO_297002 HO_297003 HO_307002 BK295 BK296 BK297 BK298 BK306 HB hHeld ⊢
             refine pureA 0 63 HT_ ?_
             refine pureA 2 65 HT_ ?_
             refine pureA 3 66 HT_ ?_
             refine pureA 8 71 HT_ ?_
             refine takeA 1 64 HT_ HW_ hHeld ?_
             refine takeA 4 67 HT_ HW_ hHeld ?_
             refine pureA 5 68 HT_ ?_
             refine takeA 6 69 HT_ HW_ hHeld ?_
             refine takeA 7 70 HT_ HW_ hHeld ?_
             refine one_ (i := 9) (N := some 72) #[true, true, true, true, true, true, true, true, true, true, false, false] rfl rfl (one_of HT_.out (by kernel_rfl)) (by decide) (fun K hK => ?_)
             refine goes_ Try.func29 (by kernel_rfl) rfl #[.agg #[.int .i64 a0_0, .int .i64 a0_1, .int .i64 a0_2, .int .i64 a0_3], .agg #[.int .i64 a1_0, .int .i64 a1_1, .slice Ao85 x297002_2.length co85, .slice A1_3 l1_3.length c1_3], .int .i64 x12_2] (by rfl) rfl rfl (by (try simp only [List.map_toArray, List.map_cons, List.map_nil]); first | done | rfl | (simp only [List.length_drop, List.length_take]; rfl)) ?_
             with_reducible refine (sandglassref12_in.calls k2 a0_0 a0_1 a0_2 a0_3 a1_0 a1_1 _ _ x297002_2 _ _ l1_3 x12_2 t308 _ ?side1 ?side2 ?side3 ?side4 A77.out).mono ?_
             (case side1 => repeat (first | exact (Kd.V_reads' HO_297002.out).2.2 | (with_reducible refine Kd.C_alloc ?_ _) | (with_reducible refine Kd.C_drewN ?_ _) | (with_reducible refine Kd.C_drew ?_)))
             (case side2 => exact (Kd.V_reads' HO_297002.out).2.1)
             (case side3 => repeat (first | exact (Kd.V_reads' HO_297003.out).2.2 | (with_reducible refine Kd.C_alloc ?_ _) | (with_reducible refine Kd.C_drewN ?_ _) | (with_reducible refine Kd.C_drew ?_)))
             (case side4 => exact (Kd.V_reads' HO_297003.out).2.1)
             rintro e w86 ⟨rfl, hb⟩
             refine ⟨_, rfl, ?_⟩
             replace HO_297002 := vb HO_297002 hb
             replace HO_297003 := vb HO_297003 hb
             replace HO_307002 := Aside0.mk (Kd.R_below (by (with_reducible repeat (first | apply Kd.R_alloc | apply Kd.R_drewN | apply Kd.R_drew)); exact HO_307002.out) hb)
             replace BK295 := Aside0.mk (blk_below (bo BK295) hb)
             replace BK296 := Aside0.mk (blk_below (bo BK296) hb)
             replace BK297 := Aside0.mk (blk_below (bo BK297) hb)
             replace BK298 := Aside0.mk (blk_below (bo BK298) hb)
             replace BK306 := Aside0.mk (blk_below (bo BK306) hb)
             replace HB := Aside0.mk (below_step (bl HB) hb)
             (try clear hb)
             (try clear hb2)
             (try clear hk)
             (try clear hi)
             have p81 : 0 ≤ ((ji78) : Int) := of_decide_eq_true (by first | (with_reducible assumption) | assumption)
             have q81 : ((ji78) : Int) < ((x307002_2.length : Int) : Int) := of_decide_eq_true (by first | (with_reducible assumption) | assumption)
             obtain ⟨go81, co81, eo81, gb81, gl81, cl81, HG81⟩ := Kd.R_form HO_307002.out (by omega)
             (first | cases eo81 | (injection eo81 with ea_ en_ ec_; (first | subst ea_ | (injection ea_ with ea_; subst ea_)); subst ec_; clear en_))
             have GB81 := Aside0.mk gb81
             have GG81 := Aside0.mk HG81
             clear gb81 gl81 HG81
             obtain ⟨hx81_0, hf81_0⟩ := Kd.R_celln 0 HO_307002.out ((ji78) : Int) p81 q81
             replace p81 := eq_true p81
             replace q81 := eq_true q81
             have HP87 := Kd.R_putn HO_307002.out ((ji78) : Int) t308
             rw [← Ny309.out] at HP87
             have HQ87 := Aside0.mk HP87
             clear HP87
             refine hK.out _ _ ⟨(blk_cell BK306.out 0).trans rfl, (blk_cell BK306.out 1).trans rfl, (blk_cell BK306.out 2).trans rfl, (blk_cell BK306.out 3).trans rfl, (blk_cell BK295.out 0).trans rfl, (blk_cell BK295.out 1).trans rfl, (blk_cell BK295.out 2).trans rfl, (blk_cell BK295.out 3).trans rfl, (blk_cell BK296.out 0).trans rfl, (blk_cell BK296.out 1).trans rfl, (blk_cell BK296.out 2).trans rfl, (blk_cell BK296.out 3).trans rfl⟩ (fun hHeld => ?_)
             clear hK K
             refine norm_ (a' := ?_) ?_ ?_
             rotate_left
             ·show Act.put _ (some 72) _ = _
              simp only [Act.put, List.setIfInBounds_toArray, List.set_cons_zero, List.set_cons_succ, i64_w, i32_w]
              rfl
             refine pureA 10 73 HT_ ?_
             refine last_ (i := 11) (N := none) #[true, true, true, true, true, true, true, true, true, true, true, true] rfl rfl (one_of HT_.out (by kernel_rfl)) (by decide) (fun K hK => ?_)
             refine skip_ (w1 := ?_) (by rfl) rfl ?_ ?_
             rotate_left
             ·go_simp
              rfl
             refine hK.out _ _ ?_
             clear hK K
             refine done_ (done_of HT_.out (by kernel_rfl)) ?_
             try go_wp2
             go_roundg k2
             case measure => have := HJ4.out; have := HK2.out; omega
             case rel => exact ⟨(wrap64 (x12_2 + 1)), (x297002_2), (y309), (.slice Ao85 x297002_2.length co85), (.slice (some ⟨go81, 0, none⟩) x307002_2.length co81), (by first | (with_reducible rfl) | rfl | (simp; done) | (simp [*]; done)), H', ⟨by have := HJ4.out; have := HK2.out; omega⟩, ⟨by (with_reducible repeat (first | apply Kd.V_alloc | apply Kd.V_drewN | apply Kd.V_drew)); exact Kd.V_mono (Kd.V_far (p := ⟨go81, ((ji78) : Int).toNat, none⟩) (Kd.V_mono HO_297002.out (fun k_ hk => (⟨hk, fun e_ => hk.2.1 (by rw [e_]; rfl)⟩ : _ ∧ k_ ≠ go81))) (fun _ hk => hk.2) (.int .i64 t308)) (fun _ hk => ⟨hk.1.1, ⟨hk.1.2.1, ⟨hk.1.2.2.1, ⟨hk.1.2.2.2.1, ⟨hk.1.2.2.2.2.1, ⟨hk.1.2.2.2.2.2.1, hk.1.2.2.2.2.2.2⟩⟩⟩⟩⟩⟩)⟩, ⟨by (with_reducible repeat (first | apply Kd.V_alloc | apply Kd.V_drewN | apply Kd.V_drew)); exact Kd.V_mono (Kd.V_far (p := ⟨go81, ((ji78) : Int).toNat, none⟩) (Kd.V_mono HO_297003.out (fun k_ hk => (⟨hk, fun e_ => hk.2.1 (by rw [e_]; rfl)⟩ : _ ∧ k_ ≠ go81))) (fun _ hk => hk.2) (.int .i64 t308)) (fun _ hk => ⟨hk.1.1, ⟨hk.1.2.1, ⟨hk.1.2.2.1, ⟨hk.1.2.2.2.1, ⟨hk.1.2.2.2.2.1, ⟨hk.1.2.2.2.2.2.1, hk.1.2.2.2.2.2.2⟩⟩⟩⟩⟩⟩)⟩, ⟨by (with_reducible repeat (first | apply Kd.R_alloc | apply Kd.R_drewN | apply Kd.R_drew)); exact HQ87.out⟩, ⟨by (with_reducible repeat (first | refine blk_drewN ?_ _ | refine blk_drew ?_ | refine blk_alloc ?_ _)); refine blk_far ?_ (by have h_ := Kd.R_ne HO_307002.out BK295.out (by decide); intro e_; exact h_ (by rw [e_]; rfl)) _; (with_reducible repeat (first | refine blk_drewN ?_ _ | refine blk_drew ?_ | refine blk_alloc ?_ _)); exact BK295.out⟩, ⟨by (with_reducible repeat (first | refine blk_drewN ?_ _ | refine blk_drew ?_ | refine blk_alloc ?_ _)); refine blk_far ?_ (by have h_ := Kd.R_ne HO_307002.out BK296.out (by decide); intro e_; exact h_ (by rw [e_]; rfl)) _; (with_reducible repeat (first | refine blk_drewN ?_ _ | refine blk_drew ?_ | refine blk_alloc ?_ _)); exact BK296.out⟩, ⟨by (with_reducible repeat (first | refine blk_drewN ?_ _ | refine blk_drew ?_ | refine blk_alloc ?_ _)); refine blk_far ?_ (by have h_ := Kd.R_ne HO_307002.out BK297.out (by decide); intro e_; exact h_ (by rw [e_]; rfl)) _; (with_reducible repeat (first | refine blk_drewN ?_ _ | refine blk_drew ?_ | refine blk_alloc ?_ _)); exact BK297.out⟩, ⟨by (with_reducible repeat (first | refine blk_drewN ?_ _ | refine blk_drew ?_ | refine blk_alloc ?_ _)); refine blk_far ?_ (by have h_ := Kd.R_ne HO_307002.out BK298.out (by decide); intro e_; exact h_ (by rw [e_]; rfl)) _; (with_reducible repeat (first | refine blk_drewN ?_ _ | refine blk_drew ?_ | refine blk_alloc ?_ _)); exact BK298.out⟩, ⟨by (with_reducible repeat (first | refine blk_drewN ?_ _ | refine blk_drew ?_ | refine blk_alloc ?_ _)); refine blk_far ?_ (by have h_ := Kd.R_ne HO_307002.out BK306.out (by decide); intro e_; exact h_ (by rw [e_]; rfl)) _; (with_reducible repeat (first | refine blk_drewN ?_ _ | refine blk_drew ?_ | refine blk_alloc ?_ _)); exact BK306.out⟩, ⟨bl HB⟩⟩
            ·rw [if_neg c80] at H
             exact absurd H (by simp)
           ·rw [if_neg c79] at H
            exact absurd H (by simp)
         ·rw [if_neg c75] at H
          have c75b0 : decide ((wrap64 (t307 - a0_3)) < x12_2) = false := decide_eq_false c75
          clear c75
          have H' := Aside0.mk H
          clear H
          try go_wp2
          replace HO_297002 := Aside0.mk (Kd.V_drew HO_297002.out)
          replace HO_297003 := Aside0.mk (Kd.V_drew HO_297003.out)
          replace HO_307002 := Aside0.mk (Kd.R_drew HO_307002.out)
          replace BK295 := Aside0.mk (blk_drew BK295.out)
          replace BK296 := Aside0.mk (blk_drew BK296.out)
          replace BK297 := Aside0.mk (blk_drew BK297.out)
          replace BK298 := Aside0.mk (blk_drew BK298.out)
          replace BK306 := Aside0.mk (blk_drew BK306.out)
          replace HB := Aside0.mk (below_drew1 HB.out)
          refine start_ (n := 9) (S := fun w' => w'.cell? ⟨gb295, 0, none⟩ = some (.int .i64 a0_0) ∧ w'.cell? ⟨gb295, 1, none⟩ = some (.int .i64 a0_1) ∧ w'.cell? ⟨gb295, 2, none⟩ = some (.int .i64 a0_2) ∧ w'.cell? ⟨gb295, 3, none⟩ = some (.int .i64 a0_3) ∧ w'.cell? ⟨gb296, 0, none⟩ = some (.int .i64 a1_0) ∧ w'.cell? ⟨gb296, 1, none⟩ = some (.int .i64 a1_1) ∧ w'.cell? ⟨gb296, 2, none⟩ = some (u297002) ∧ w'.cell? ⟨gb296, 3, none⟩ = some (.slice A1_3 l1_3.length c1_3)) (ds := []) #[false, false, false, false, false, false, false, false, false] (by kernel_rfl) rfl rfl ⟨(blk_cell BK295.out 0).trans rfl, (blk_cell BK295.out 1).trans rfl, (blk_cell BK295.out 2).trans rfl, (blk_cell BK295.out 3).trans rfl, (blk_cell BK296.out 0).trans rfl, (blk_cell BK296.out 1).trans rfl, (blk_cell BK296.out 2).trans rfl, (blk_cell BK296.out 3).trans rfl⟩ (fun hHeld => ?_); refine with_tabW sandglassref12_Ask.tab9 sandglassref12_Ask.bits9 (fun HT_ HW_ => ?_)
          generalize wr.drew = w88 at HO_297002 HO_297003 HO_307002 BK295 BK296 BK297 BK298 BK306 HB hHeld ⊢
          refine pureA 0 54 HT_ ?_
          refine pureA 2 56 HT_ ?_
          refine pureA 5 59 HT_ ?_
          refine takeA 1 55 HT_ HW_ hHeld ?_
          refine takeA 3 57 HT_ HW_ hHeld ?_
          refine takeA 6 60 HT_ HW_ hHeld ?_
          refine one_ (i := 4) (N := some 58) #[true, true, true, true, true, true, true, false, false] rfl rfl (one_of HT_.out (by kernel_rfl)) (by decide) (fun K hK => ?_)
          refine goes_ Try.func28 (by kernel_rfl) rfl #[.agg #[.int .i64 a0_0, .int .i64 a0_1, .int .i64 a0_2, .int .i64 a0_3], .int .i64 a1_0] (by rfl) rfl rfl (by (try simp only [List.map_toArray, List.map_cons, List.map_nil]); first | done | rfl | (simp only [List.length_drop, List.length_take]; rfl)) ?_
          with_reducible refine (sandglassref12_number.calls a0_0 a0_1 a0_2 a0_3 a1_0 t307 _ A74.out).mono ?_
          rintro e w89 ⟨rfl, hb⟩
          refine ⟨_, rfl, ?_⟩
          replace HO_297002 := vb HO_297002 hb
          replace HO_297003 := vb HO_297003 hb
          replace HO_307002 := Aside0.mk (Kd.R_below (by (with_reducible repeat (first | apply Kd.R_alloc | apply Kd.R_drewN | apply Kd.R_drew)); exact HO_307002.out) hb)
          replace BK295 := Aside0.mk (blk_below (bo BK295) hb)
          replace BK296 := Aside0.mk (blk_below (bo BK296) hb)
          replace BK297 := Aside0.mk (blk_below (bo BK297) hb)
          replace BK298 := Aside0.mk (blk_below (bo BK298) hb)
          replace BK306 := Aside0.mk (blk_below (bo BK306) hb)
          replace HB := Aside0.mk (below_step (bl HB) hb)
          (try clear hb)
          (try clear hb2)
          (try clear hk)
          (try clear hi)
          refine hK.out _ _ ⟨(blk_cell BK295.out 0).trans rfl, (blk_cell BK295.out 1).trans rfl, (blk_cell BK295.out 2).trans rfl, (blk_cell BK295.out 3).trans rfl, (blk_cell BK296.out 0).trans rfl, (blk_cell BK296.out 1).trans rfl, (blk_cell BK296.out 2).trans rfl, (blk_cell BK296.out 3).trans rfl⟩ (fun hHeld => ?_)
          clear hK K
          refine norm_ (a' := ?_) ?_ ?_
          rotate_left
          ·show Act.put _ (some 58) _ = _
           simp only [Act.put, List.setIfInBounds_toArray, List.set_cons_zero, List.set_cons_succ, i64_w, i32_w]
           rfl
          refine pureA 7 61 HT_ ?_
          refine pureA 8 62 HT_ ?_
          refine done_ (done_of HT_.out (by kernel_rfl)) ?_
          try go_wp2
          go_roundg k2
          case measure => have := HJ4.out; have := HK2.out; omega
          case rel => exact ⟨(wrap64 (x12_2 + 1)), (x297002_2), (x307002_2), (u297002), (u307002), (by first | (with_reducible rfl) | rfl | (simp; done) | (simp [*]; done)), H', ⟨by have := HJ4.out; have := HK2.out; omega⟩, ⟨by (with_reducible repeat (first | apply Kd.V_alloc | apply Kd.V_drewN | apply Kd.V_drew)); exact HO_297002.out⟩, ⟨by (with_reducible repeat (first | apply Kd.V_alloc | apply Kd.V_drewN | apply Kd.V_drew)); exact HO_297003.out⟩, ⟨by (with_reducible repeat (first | apply Kd.R_alloc | apply Kd.R_drewN | apply Kd.R_drew)); exact HO_307002.out⟩, ⟨bo BK295⟩, ⟨bo BK296⟩, ⟨bo BK297⟩, ⟨bo BK298⟩, ⟨bo BK306⟩, ⟨bl HB⟩⟩
        ·rw [if_neg c73] at H
         have c73b0 : decide (x12_2 ≤ t302) = false := decide_eq_false c73
         clear c73
         replace H := Option.bind_eq_some_iff.mp H
         obtain ⟨t310, A900, H⟩ := H
         have A90 := Aside0.mk A900
         clear A900
         by_cases c91 : (wrap64 (t310 + a3)) ≤ a0_1
         ·rw [if_pos c91] at H
          have c91b0 : decide ((wrap64 (t310 + a3)) ≤ a0_1) = true := decide_eq_true c91
          clear c91
          by_cases c92 : a0_3 = 0
          ·rw [if_pos c92] at H
           exact absurd H (by simp)
          ·rw [if_neg c92] at H
           have c92b0 : (a0_3 == 0) = false := beq_eq_false_iff_ne.mpr c92
           have c92b1 : (a0_3 != 0) = true := bne_iff_ne.mpr c92
           obtain ⟨ji93, hji93⟩ : ∃ j_ : Int, (Int.tmod t302 a0_3) = j_ := ⟨_, rfl⟩
           replace H : (if 0 ≤ (ji93) then (if (ji93) < (x307002_2.length : Int) then ((some (x307002_2.set ((ji93) : Int).toNat (wrap64 ((rd x307002_2 (ji93)) + a3)) : List Int)).bind fun y313 => ((sandglassref12_wait.f k2 a0_0 a0_1 a0_2 a0_3 ji49 0 y313 ([] : List (S54)) ji49 0).bind fun t314 => (some (ji49, 0, y313, ([] : List (S54)), decide ((wrap64 (t310 + a3)) ≤ a0_1), wrap64 (a0_1 - (wrap64 (t310 + a3))), 0, t314)))) else (none)) else (none)) = some (r1, r2, r3, r4, r5, r6, r7, r8) := by first | (rw [hji93] at H; exact H) | (simp only [hji93] at H ⊢; exact H)
           (try rw [hji93] at A90)
           by_cases c94 : 0 ≤ (ji93)
           ·rw [if_pos c94] at H
            have c94b0 : decide (0 ≤ (ji93)) = true := decide_eq_true c94
            clear c94
            by_cases c95 : (ji93) < (x307002_2.length : Int)
            ·rw [if_pos c95] at H
             have c95b0 : decide ((ji93) < (x307002_2.length : Int)) = true := decide_eq_true c95
             clear c95
             obtain ⟨y313, hy313⟩ : ∃ y_ : List Int, y_ = (x307002_2.set ((ji93) : Int).toNat (wrap64 ((rd x307002_2 (ji93)) + a3))) := ⟨_, rfl⟩
             replace H : ((sandglassref12_wait.f k2 a0_0 a0_1 a0_2 a0_3 ji49 0 y313 ([] : List (S54)) ji49 0).bind fun t314 => (some (ji49, 0, y313, ([] : List (S54)), decide ((wrap64 (t310 + a3)) ≤ a0_1), wrap64 (a0_1 - (wrap64 (t310 + a3))), 0, t314))) = some (r1, r2, r3, r4, r5, r6, r7, r8) := by first | (rw [hy313]; with_reducible exact H) | (have H2_ := (Option.bind_some _ _).symm.trans H; rw [hy313]; with_reducible exact H2_) | (have H2_ := (Option.bind_some _ _).symm.trans H; with_reducible exact H2_) | with_reducible exact H | (rw [hy313]; exact H) | exact H
             have Ny313 := Aside0.mk hy313
             clear hy313
             replace H := Option.bind_eq_some_iff.mp H
             obtain ⟨t314, A970, H⟩ := H
             have A97 := Aside0.mk A970
             clear A970
             simp only [Option.some.injEq, Prod.mk.injEq] at H
             obtain ⟨rfl, rfl, rfl, rfl, rfl, rfl, rfl, rfl⟩ := H
             have hnb98 := NB295_296.out
             have hnc98 := NB296_295.out
             have hnb99 := NB295_297.out
             have hnc99 := NB297_295.out
             have hnb100 := NB295_298.out
             have hnc100 := NB298_295.out
             have hnb101 := NB295_306.out
             have hnc101 := NB306_295.out
             obtain ⟨hcz102_0, hcz102_1, hcz102_2, hcz102_3⟩ := ce4 BK295
             obtain ⟨hfz102_0, hfz102_1, hfz102_2, hfz102_3⟩ := fr4 BK295
             have hnb103 := NB306_296.out
             have hnc103 := NB296_306.out
             have hnb104 := NB306_297.out
             have hnc104 := NB297_306.out
             have hnb105 := NB306_298.out
             have hnc105 := NB298_306.out
             obtain ⟨hcz106_0, hcz106_1, hcz106_2, hcz106_3⟩ := ce4 BK306
             obtain ⟨hfz106_0, hfz106_1, hfz106_2, hfz106_3⟩ := fr4 BK306
             obtain ⟨Ao107, co107, eo107⟩ := Kd.R_slice HO_307002.out
             subst eo107
             try go_wp2_with (first | ((with_reducible refine gate_callee (f := 30) rfl ?_); refine goesL_ (some 77) rfl rfl Try.func30 (by kernel_rfl) rfl #[.agg #[.int .i64 a0_0, .int .i64 a0_1, .int .i64 a0_2, .int .i64 a0_3], .agg #[.int .i64 ji49, .int .i64 0, .slice Ao107 x307002_2.length co107, .slice none 0 0], .int .i64 ji49] rfl (by (try simp only [List.map_toArray, List.map_cons, List.map_nil]); first | done | (simp only [hji49]; rfl) | rfl | (simp only [List.length_drop, List.length_take]; rfl)) ?_; (refine (sandglassref12_counts.calls k2 a0_0 a0_1 a0_2 a0_3 ji49 0 _ _ x307002_2 _ _ ([] : List (S54)) ji49 t310 _ ?side1 ?side2 ?side3 ?side4 A90.out).mono ?_); (case side1 => repeat (first | exact (Kd.R_reads' HO_307002.out).2.2 | (with_reducible refine Kd.C_alloc ?_ _) | (with_reducible refine Kd.C_drewN ?_ _) | (with_reducible refine Kd.C_drew ?_))); (case side2 => exact (Kd.R_reads' HO_307002.out).2.1); (case side3 => exact Kd.C_nil _ _); (case side4 => exact Nat.le_refl _); rintro e w108 ⟨rfl, hb⟩; refine ⟨_, rfl, ?_⟩; replace HO_297002 := vb HO_297002 hb; replace HO_297003 := vb HO_297003 hb; replace HO_307002 := Aside0.mk (Kd.R_below (by (with_reducible repeat (first | apply Kd.R_alloc | apply Kd.R_drewN | apply Kd.R_drew)); exact HO_307002.out) hb); replace BK295 := Aside0.mk (blk_below (bo BK295) hb); replace BK296 := Aside0.mk (blk_below (bo BK296) hb); replace BK297 := Aside0.mk (blk_below (bo BK297) hb); replace BK298 := Aside0.mk (blk_below (bo BK298) hb); replace BK306 := Aside0.mk (blk_below (bo BK306) hb); replace HB := Aside0.mk (below_step (bl HB) hb); (try clear hb); (try clear hb2); (try clear hk); (try clear hi); obtain ⟨hcz109_0, hcz109_1, hcz109_2, hcz109_3⟩ := ce4 BK295; obtain ⟨hfz109_0, hfz109_1, hfz109_2, hfz109_3⟩ := fr4 BK295) | ((with_reducible refine gate_dst (N := 14) rfl ?_); refine box_event ?hg (N := 14) ?hd (cs := #[.bool false, .int .i64 0, .int .i64 0, .int .i64 0]) (t := 32) ?hr ?_; (case hd => rfl); (case hg => rfl); (case hr => first | (go_simp; done) | (go_simp; rfl)); intro gb311 hg w110 hbox hb; have BK311 := Aside0.mk (hbox); have GW311 := Aside0.mk ((by rw [hg]; exact (below_size (bl HB)) : w.heap.size ≤ gb311)); have GE311 := Aside0.mk ((by rw [hg]; exact (below_size (bl HB)) : w.heap.size ≤ gb311)); have NB295_311 := nb BK295 hg; have NB311_295 := bn BK295 hg; have NB296_311 := nb BK296 hg; have NB311_296 := bn BK296 hg; have NB297_311 := nb BK297 hg; have NB311_297 := bn BK297 hg; have NB298_311 := nb BK298 hg; have NB311_298 := bn BK298 hg; have NB306_311 := nb BK306 hg; have NB311_306 := bn BK306 hg; replace HO_297002 := ve HO_297002 hg hb; replace HO_297003 := ve HO_297003 hg hb; replace HO_307002 := Aside0.mk (Kd.R_below (by (with_reducible repeat (first | apply Kd.R_alloc | apply Kd.R_drewN | apply Kd.R_drew)); exact HO_307002.out) hb); replace BK295 := Aside0.mk (blk_below (bo BK295) hb); replace BK296 := Aside0.mk (blk_below (bo BK296) hb); replace BK297 := Aside0.mk (blk_below (bo BK297) hb); replace BK298 := Aside0.mk (blk_below (bo BK298) hb); replace BK306 := Aside0.mk (blk_below (bo BK306) hb); replace HB := Aside0.mk (below_step (bl HB) hb); clear hb hbox hg; have hnb111 := NB311_295.out; have hnc111 := NB295_311.out; have hnb112 := NB311_296.out; have hnc112 := NB296_311.out; have hnb113 := NB311_297.out; have hnc113 := NB297_311.out; have hnb114 := NB311_298.out; have hnc114 := NB298_311.out; have hnb115 := NB311_306.out; have hnc115 := NB306_311.out; obtain ⟨hcz116_0, hcz116_1, hcz116_2, hcz116_3⟩ := ce4 BK311; obtain ⟨hfz116_0, hfz116_1, hfz116_2, hfz116_3⟩ := fr4 BK311))
             have n0_ : Aside0 (Kd.V (Kd.int .i64) 3 ((((w110.setCell ⟨gb311, 0, none⟩ (.bool true)).setCell ⟨gb311, 1, none⟩ (.int .i64 0)).setCell ⟨gb311, 2, none⟩ (.int .i64 0)).setCell ⟨gb311, 3, none⟩ (.int .i64 0)) w.heap.size (fun k_ => ((P1_2_ k_ ∨ P1_3_ k_) ∨ w.heap.size ≤ k_) ∧ some k_ ≠ (.slice Ao107 x307002_2.length co107 : Value).ownBlock ∧ k_ ≠ gb295 ∧ k_ ≠ gb296 ∧ k_ ≠ gb297 ∧ k_ ≠ gb298 ∧ k_ ≠ gb306 ∧ k_ ≠ gb311) u297002 x297002_2) := ⟨by (with_reducible repeat (first | apply Kd.V_alloc | apply Kd.V_drewN | apply Kd.V_drew)); exact Kd.V_mono (Kd.V_far (p := ⟨gb311, 3, none⟩) (Kd.V_far (p := ⟨gb311, 2, none⟩) (Kd.V_far (p := ⟨gb311, 1, none⟩) (Kd.V_far (p := ⟨gb311, 0, none⟩) (Kd.V_mono HO_297002.out (fun k_ hk => (⟨hk, hk.2⟩ : _ ∧ k_ ≠ gb311))) (fun _ hk => hk.2) (.bool true)) (fun _ hk => hk.2) (.int .i64 0)) (fun _ hk => hk.2) (.int .i64 0)) (fun _ hk => hk.2) (.int .i64 0)) (fun _ hk => ⟨hk.1.1.1, ⟨hk.1.1.2.1, ⟨hk.1.1.2.2.1, ⟨hk.1.1.2.2.2.1, ⟨hk.1.1.2.2.2.2.1, ⟨hk.1.1.2.2.2.2.2.1, ⟨hk.1.1.2.2.2.2.2.2, hk.1.2⟩⟩⟩⟩⟩⟩⟩)⟩
             have n1_ : Aside0 (Kd.V k54 54 ((((w110.setCell ⟨gb311, 0, none⟩ (.bool true)).setCell ⟨gb311, 1, none⟩ (.int .i64 0)).setCell ⟨gb311, 2, none⟩ (.int .i64 0)).setCell ⟨gb311, 3, none⟩ (.int .i64 0)) w.heap.size (fun k_ => ((P1_2_ k_ ∨ P1_3_ k_) ∨ w.heap.size ≤ k_) ∧ some k_ ≠ (.slice Ao107 x307002_2.length co107 : Value).ownBlock ∧ k_ ≠ gb295 ∧ k_ ≠ gb296 ∧ k_ ≠ gb297 ∧ k_ ≠ gb298 ∧ k_ ≠ gb306 ∧ k_ ≠ gb311) (.slice A1_3 l1_3.length c1_3) l1_3) := ⟨by (with_reducible repeat (first | apply Kd.V_alloc | apply Kd.V_drewN | apply Kd.V_drew)); exact Kd.V_mono (Kd.V_far (p := ⟨gb311, 3, none⟩) (Kd.V_far (p := ⟨gb311, 2, none⟩) (Kd.V_far (p := ⟨gb311, 1, none⟩) (Kd.V_far (p := ⟨gb311, 0, none⟩) (Kd.V_mono HO_297003.out (fun k_ hk => (⟨hk, hk.2⟩ : _ ∧ k_ ≠ gb311))) (fun _ hk => hk.2) (.bool true)) (fun _ hk => hk.2) (.int .i64 0)) (fun _ hk => hk.2) (.int .i64 0)) (fun _ hk => hk.2) (.int .i64 0)) (fun _ hk => ⟨hk.1.1.1, ⟨hk.1.1.2.1, ⟨hk.1.1.2.2.1, ⟨hk.1.1.2.2.2.1, ⟨hk.1.1.2.2.2.2.1, ⟨hk.1.1.2.2.2.2.2.1, ⟨hk.1.1.2.2.2.2.2.2, hk.1.2⟩⟩⟩⟩⟩⟩⟩)⟩
             have n2_ : Aside0 (Kd.R (Kd.int .i64) 3 ((((w110.setCell ⟨gb311, 0, none⟩ (.bool true)).setCell ⟨gb311, 1, none⟩ (.int .i64 0)).setCell ⟨gb311, 2, none⟩ (.int .i64 0)).setCell ⟨gb311, 3, none⟩ (.int .i64 0)) w.heap.size (fun k_ => (w.heap.size ≤ k_)) (.slice Ao107 x307002_2.length co107) x307002_2) := ⟨by (with_reducible repeat (first | apply Kd.R_alloc | apply Kd.R_drewN | apply Kd.R_drew)); exact Kd.R_mono (Kd.R_far (p := ⟨gb311, 3, none⟩) (Kd.R_far (p := ⟨gb311, 2, none⟩) (Kd.R_far (p := ⟨gb311, 1, none⟩) (Kd.R_far (p := ⟨gb311, 0, none⟩) (Kd.R_types HO_307002.out BK311.out (by decide)) (fun _ hk => hk.2) (.bool true)) (fun _ hk => hk.2) (.int .i64 0)) (fun _ hk => hk.2) (.int .i64 0)) (fun _ hk => hk.2) (.int .i64 0)) (fun _ hk => hk.1)⟩
             have n3_ : Aside0 (((((w110.setCell ⟨gb311, 0, none⟩ (.bool true)).setCell ⟨gb311, 1, none⟩ (.int .i64 0)).setCell ⟨gb311, 2, none⟩ (.int .i64 0)).setCell ⟨gb311, 3, none⟩ (.int .i64 0)).heap[gb295]? = some (.cells #[.int .i64 a0_0, .int .i64 a0_1, .int .i64 a0_2, .int .i64 a0_3] 23 (0, 0))) := ⟨by (with_reducible repeat (first | refine blk_drewN ?_ _ | refine blk_drew ?_ | refine blk_alloc ?_ _)); refine blk_far ?_ NB295_311.out _; (with_reducible repeat (first | refine blk_drewN ?_ _ | refine blk_drew ?_ | refine blk_alloc ?_ _)); refine blk_far ?_ NB295_311.out _; (with_reducible repeat (first | refine blk_drewN ?_ _ | refine blk_drew ?_ | refine blk_alloc ?_ _)); refine blk_far ?_ NB295_311.out _; (with_reducible repeat (first | refine blk_drewN ?_ _ | refine blk_drew ?_ | refine blk_alloc ?_ _)); refine blk_far ?_ NB295_311.out _; (with_reducible repeat (first | refine blk_drewN ?_ _ | refine blk_drew ?_ | refine blk_alloc ?_ _)); exact BK295.out⟩
             have n4_ : Aside0 (((((w110.setCell ⟨gb311, 0, none⟩ (.bool true)).setCell ⟨gb311, 1, none⟩ (.int .i64 0)).setCell ⟨gb311, 2, none⟩ (.int .i64 0)).setCell ⟨gb311, 3, none⟩ (.int .i64 0)).heap[gb296]? = some (.cells #[.int .i64 a1_0, .int .i64 a1_1, u297002, .slice A1_3 l1_3.length c1_3] 27 (0, 0))) := ⟨by (with_reducible repeat (first | refine blk_drewN ?_ _ | refine blk_drew ?_ | refine blk_alloc ?_ _)); refine blk_far ?_ NB296_311.out _; (with_reducible repeat (first | refine blk_drewN ?_ _ | refine blk_drew ?_ | refine blk_alloc ?_ _)); refine blk_far ?_ NB296_311.out _; (with_reducible repeat (first | refine blk_drewN ?_ _ | refine blk_drew ?_ | refine blk_alloc ?_ _)); refine blk_far ?_ NB296_311.out _; (with_reducible repeat (first | refine blk_drewN ?_ _ | refine blk_drew ?_ | refine blk_alloc ?_ _)); refine blk_far ?_ NB296_311.out _; (with_reducible repeat (first | refine blk_drewN ?_ _ | refine blk_drew ?_ | refine blk_alloc ?_ _)); exact BK296.out⟩
             have n5_ : Aside0 (((((w110.setCell ⟨gb311, 0, none⟩ (.bool true)).setCell ⟨gb311, 1, none⟩ (.int .i64 0)).setCell ⟨gb311, 2, none⟩ (.int .i64 0)).setCell ⟨gb311, 3, none⟩ (.int .i64 0)).heap[gb297]? = some (.cells #[.int .i64 0, .int .i64 0, .slice none 0 0, .slice none 0 0] 27 (0, 0))) := ⟨by (with_reducible repeat (first | refine blk_drewN ?_ _ | refine blk_drew ?_ | refine blk_alloc ?_ _)); refine blk_far ?_ NB297_311.out _; (with_reducible repeat (first | refine blk_drewN ?_ _ | refine blk_drew ?_ | refine blk_alloc ?_ _)); refine blk_far ?_ NB297_311.out _; (with_reducible repeat (first | refine blk_drewN ?_ _ | refine blk_drew ?_ | refine blk_alloc ?_ _)); refine blk_far ?_ NB297_311.out _; (with_reducible repeat (first | refine blk_drewN ?_ _ | refine blk_drew ?_ | refine blk_alloc ?_ _)); refine blk_far ?_ NB297_311.out _; (with_reducible repeat (first | refine blk_drewN ?_ _ | refine blk_drew ?_ | refine blk_alloc ?_ _)); exact BK297.out⟩
             have n6_ : Aside0 (((((w110.setCell ⟨gb311, 0, none⟩ (.bool true)).setCell ⟨gb311, 1, none⟩ (.int .i64 0)).setCell ⟨gb311, 2, none⟩ (.int .i64 0)).setCell ⟨gb311, 3, none⟩ (.int .i64 0)).heap[gb298]? = some (.cells #[.bool false, .int .i64 0, .int .i64 0, .int .i64 0] 32 (0, 0))) := ⟨by (with_reducible repeat (first | refine blk_drewN ?_ _ | refine blk_drew ?_ | refine blk_alloc ?_ _)); refine blk_far ?_ NB298_311.out _; (with_reducible repeat (first | refine blk_drewN ?_ _ | refine blk_drew ?_ | refine blk_alloc ?_ _)); refine blk_far ?_ NB298_311.out _; (with_reducible repeat (first | refine blk_drewN ?_ _ | refine blk_drew ?_ | refine blk_alloc ?_ _)); refine blk_far ?_ NB298_311.out _; (with_reducible repeat (first | refine blk_drewN ?_ _ | refine blk_drew ?_ | refine blk_alloc ?_ _)); refine blk_far ?_ NB298_311.out _; (with_reducible repeat (first | refine blk_drewN ?_ _ | refine blk_drew ?_ | refine blk_alloc ?_ _)); exact BK298.out⟩
             have n7_ : Aside0 (((((w110.setCell ⟨gb311, 0, none⟩ (.bool true)).setCell ⟨gb311, 1, none⟩ (.int .i64 0)).setCell ⟨gb311, 2, none⟩ (.int .i64 0)).setCell ⟨gb311, 3, none⟩ (.int .i64 0)).heap[gb306]? = some (.cells #[.int .i64 ji49, .int .i64 0, .slice Ao107 x307002_2.length co107, .slice none 0 0] 27 (0, 0))) := ⟨by (with_reducible repeat (first | refine blk_drewN ?_ _ | refine blk_drew ?_ | refine blk_alloc ?_ _)); refine blk_far ?_ NB306_311.out _; (with_reducible repeat (first | refine blk_drewN ?_ _ | refine blk_drew ?_ | refine blk_alloc ?_ _)); refine blk_far ?_ NB306_311.out _; (with_reducible repeat (first | refine blk_drewN ?_ _ | refine blk_drew ?_ | refine blk_alloc ?_ _)); refine blk_far ?_ NB306_311.out _; (with_reducible repeat (first | refine blk_drewN ?_ _ | refine blk_drew ?_ | refine blk_alloc ?_ _)); refine blk_far ?_ NB306_311.out _; (with_reducible repeat (first | refine blk_drewN ?_ _ | refine blk_drew ?_ | refine blk_alloc ?_ _)); exact BK306.out⟩
             have n8_ : Aside0 (((((w110.setCell ⟨gb311, 0, none⟩ (.bool true)).setCell ⟨gb311, 1, none⟩ (.int .i64 0)).setCell ⟨gb311, 2, none⟩ (.int .i64 0)).setCell ⟨gb311, 3, none⟩ (.int .i64 0)).heap[gb311]? = some (.cells #[.bool true, .int .i64 0, .int .i64 0, .int .i64 0] 32 (0, 0))) := ⟨by (with_reducible repeat (first | refine blk_drewN ?_ _ | refine blk_drew ?_ | refine blk_alloc ?_ _)); refine blk_put (cs := #[.bool true, .int .i64 0, .int .i64 0, .int .i64 0]) ?_ 3 _ rfl; (with_reducible repeat (first | refine blk_drewN ?_ _ | refine blk_drew ?_ | refine blk_alloc ?_ _)); refine blk_put (cs := #[.bool true, .int .i64 0, .int .i64 0, .int .i64 0]) ?_ 2 _ rfl; (with_reducible repeat (first | refine blk_drewN ?_ _ | refine blk_drew ?_ | refine blk_alloc ?_ _)); refine blk_put (cs := #[.bool true, .int .i64 0, .int .i64 0, .int .i64 0]) ?_ 1 _ rfl; (with_reducible repeat (first | refine blk_drewN ?_ _ | refine blk_drew ?_ | refine blk_alloc ?_ _)); refine blk_put (cs := #[.bool false, .int .i64 0, .int .i64 0, .int .i64 0]) ?_ 0 _ rfl; (with_reducible repeat (first | refine blk_drewN ?_ _ | refine blk_drew ?_ | refine blk_alloc ?_ _)); exact BK311.out⟩
             have n9_ : Aside0 (Below w.heap.size w ((((w110.setCell ⟨gb311, 0, none⟩ (.bool true)).setCell ⟨gb311, 1, none⟩ (.int .i64 0)).setCell ⟨gb311, 2, none⟩ (.int .i64 0)).setCell ⟨gb311, 3, none⟩ (.int .i64 0))) := ⟨bl HB⟩
             (try clear HO_297002)
             (try clear HO_297003)
             (try clear HO_307002)
             (try clear BK295)
             (try clear BK296)
             (try clear BK297)
             (try clear BK298)
             (try clear BK306)
             (try clear BK311)
             (try clear HB)
             generalize ((((w110.setCell ⟨gb311, 0, none⟩ (.bool true)).setCell ⟨gb311, 1, none⟩ (.int .i64 0)).setCell ⟨gb311, 2, none⟩ (.int .i64 0)).setCell ⟨gb311, 3, none⟩ (.int .i64 0)) = w117 at n0_ n1_ n2_ n3_ n4_ n5_ n6_ n7_ n8_ n9_ ⊢
             have HO_297002 := n0_
             have HO_297003 := n1_
             have HO_307002 := n2_
             have BK295 := n3_
             have BK296 := n4_
             have BK297 := n5_
             have BK298 := n6_
             have BK306 := n7_
             have BK311 := n8_
             have HB := n9_
             clear n0_ n1_ n2_ n3_ n4_ n5_ n6_ n7_ n8_ n9_
             replace HO_297002 := Aside0.mk (Kd.V_drew HO_297002.out)
             replace HO_297003 := Aside0.mk (Kd.V_drew HO_297003.out)
             replace HO_307002 := Aside0.mk (Kd.R_drew HO_307002.out)
             replace BK295 := Aside0.mk (blk_drew BK295.out)
             replace BK296 := Aside0.mk (blk_drew BK296.out)
             replace BK297 := Aside0.mk (blk_drew BK297.out)
             replace BK298 := Aside0.mk (blk_drew BK298.out)
             replace BK306 := Aside0.mk (blk_drew BK306.out)
             replace BK311 := Aside0.mk (blk_drew BK311.out)
             replace HB := Aside0.mk (below_drew1 HB.out)
             have p312 : 0 ≤ ((ji93) : Int) := of_decide_eq_true (by first | (with_reducible assumption) | assumption)
             have q312 : (ji93) < (x307002_2.length : Int) := of_decide_eq_true (by first | (with_reducible assumption) | assumption)
             obtain ⟨ad312, e312, hx312_0⟩ := Kd.at_int (Kd.R_reads' HO_307002.out).2.2 (ji93) p312 q312
             cases e312
             replace p312 := eq_true p312
             replace q312 := eq_true q312
             have p96 : 0 ≤ ((ji93) : Int) := of_decide_eq_true (by first | (with_reducible assumption) | assumption)
             have q96 : ((ji93) : Int) < ((x307002_2.length : Int) : Int) := of_decide_eq_true (by first | (with_reducible assumption) | assumption)
             obtain ⟨go96, co96, eo96, gb96, gl96, cl96, HG96⟩ := Kd.R_form HO_307002.out (by omega)
             (first | cases eo96 | (injection eo96 with ea_ en_ ec_; (first | subst ea_ | (injection ea_ with ea_; subst ea_)); subst ec_; clear en_))
             have GB96 := Aside0.mk gb96
             have GG96 := Aside0.mk HG96
             clear gb96 gl96 HG96
             (first | simp only [add_plain] at hx312_0 | skip)
             obtain ⟨hx96_0, hf96_0⟩ := Kd.R_celln 0 HO_307002.out ((ji93) : Int) p96 q96
             replace p96 := eq_true p96
             replace q96 := eq_true q96
             have HP119 := Kd.R_putn HO_307002.out ((ji93) : Int) (wrap64 ((rd x307002_2 (ji93)) + a3))
             rw [← Ny313.out] at HP119
             have HQ119 := Aside0.mk HP119
             clear HP119
             refine start_ (n := 18) (S := fun w' => w'.cell? ⟨gb306, 0, none⟩ = some (.int .i64 ji49) ∧ w'.cell? ⟨gb306, 1, none⟩ = some (.int .i64 0) ∧ w'.cell? ⟨gb306, 2, none⟩ = some (.slice (some ⟨go96, 0, none⟩) x307002_2.length co107) ∧ w'.cell? ⟨gb306, 3, none⟩ = some (.slice none 0 0) ∧ w'.cell? ⟨gb295, 0, none⟩ = some (.int .i64 a0_0) ∧ w'.cell? ⟨gb295, 1, none⟩ = some (.int .i64 a0_1) ∧ w'.cell? ⟨gb295, 2, none⟩ = some (.int .i64 a0_2) ∧ w'.cell? ⟨gb295, 3, none⟩ = some (.int .i64 a0_3) ∧ w'.cell? ⟨go96, ((ji93)).toNat, none⟩ = some (.int .i64 (rd x307002_2 (ji93)))) (ds := [17]) #[false, false, false, false, false, false, false, false, false, false, false, false, false, false, false, false, false, false] (by kernel_rfl) rfl rfl ⟨(blk_cell BK306.out 0).trans rfl, (blk_cell BK306.out 1).trans rfl, (blk_cell BK306.out 2).trans rfl, (blk_cell BK306.out 3).trans rfl, (blk_cell BK295.out 0).trans rfl, (blk_cell BK295.out 1).trans rfl, (blk_cell BK295.out 2).trans rfl, (blk_cell BK295.out 3).trans rfl, hx312_0⟩ (fun hHeld => ?_); refine with_tabW sandglassref12_Ask.tab14 sandglassref12_Ask.bits14 (fun HT_ HW_ => ?_)
             generalize w117.drew = w118 at HO_297002 HO_297003 HO_307002 BK295 BK296 BK297 BK298 BK306 BK311 HB GG96 HQ119 hf96_0 hx312_0 hx96_0 hHeld ⊢
             refine pureA 0 87 HT_ ?_
             refine pureA 2 89 HT_ ?_
             refine pureA 3 90 HT_ ?_
             refine pureA 6 93 HT_ ?_
             refine pureA 8 95 HT_ ?_
             refine pureA 9 96 HT_ ?_
             refine pureA 14 101 HT_ ?_
             refine takeA 1 88 HT_ HW_ hHeld ?_
             refine takeA 4 91 HT_ HW_ hHeld ?_
             refine pureA 5 92 HT_ ?_
             refine takeA 7 94 HT_ HW_ hHeld ?_
             refine takeA 10 97 HT_ HW_ hHeld ?_
             refine pureA 11 98 HT_ ?_
             refine pureA 12 99 HT_ ?_
             refine takeA 13 100 HT_ HW_ hHeld ?_
             refine pureA 15 102 HT_ ?_
             refine pureA 16 103 HT_ ?_
             refine last_ (i := 17) (N := none) #[true, true, true, true, true, true, true, true, true, true, true, true, true, true, true, true, true, true] rfl rfl (one_of HT_.out (by kernel_rfl)) (by decide) (fun K hK => ?_)
             refine skip_ (w1 := ?_) (by rfl) rfl ?_ ?_
             rotate_left
             ·go_simp
              rfl
             refine hK.out _ _ ?_
             clear hK K
             refine done_ (done_of HT_.out (by kernel_rfl)) ?_
             have n0_ : Aside0 (Kd.V (Kd.int .i64) 3 (w118.setCell ⟨go96, ((ji93) : Int).toNat, none⟩ (.int .i64 (wrap64 ((rd x307002_2 (ji93)) + a3)))) w.heap.size (fun k_ => ((P1_2_ k_ ∨ P1_3_ k_) ∨ w.heap.size ≤ k_) ∧ some k_ ≠ (.slice (some ⟨go96, 0, none⟩) x307002_2.length co107 : Value).ownBlock ∧ k_ ≠ gb295 ∧ k_ ≠ gb296 ∧ k_ ≠ gb297 ∧ k_ ≠ gb298 ∧ k_ ≠ gb306 ∧ k_ ≠ gb311) u297002 x297002_2) := ⟨by (with_reducible repeat (first | apply Kd.V_alloc | apply Kd.V_drewN | apply Kd.V_drew)); exact Kd.V_mono (Kd.V_far (p := ⟨go96, ((ji93) : Int).toNat, none⟩) (Kd.V_mono HO_297002.out (fun k_ hk => (⟨hk, fun e_ => hk.2.1 (by rw [e_]; rfl)⟩ : _ ∧ k_ ≠ go96))) (fun _ hk => hk.2) (.int .i64 (wrap64 ((rd x307002_2 (ji93)) + a3)))) (fun _ hk => ⟨hk.1.1, ⟨hk.1.2.1, ⟨hk.1.2.2.1, ⟨hk.1.2.2.2.1, ⟨hk.1.2.2.2.2.1, ⟨hk.1.2.2.2.2.2.1, ⟨hk.1.2.2.2.2.2.2.1, hk.1.2.2.2.2.2.2.2⟩⟩⟩⟩⟩⟩⟩)⟩
             have n1_ : Aside0 (Kd.V k54 54 (w118.setCell ⟨go96, ((ji93) : Int).toNat, none⟩ (.int .i64 (wrap64 ((rd x307002_2 (ji93)) + a3)))) w.heap.size (fun k_ => ((P1_2_ k_ ∨ P1_3_ k_) ∨ w.heap.size ≤ k_) ∧ some k_ ≠ (.slice (some ⟨go96, 0, none⟩) x307002_2.length co107 : Value).ownBlock ∧ k_ ≠ gb295 ∧ k_ ≠ gb296 ∧ k_ ≠ gb297 ∧ k_ ≠ gb298 ∧ k_ ≠ gb306 ∧ k_ ≠ gb311) (.slice A1_3 l1_3.length c1_3) l1_3) := ⟨by (with_reducible repeat (first | apply Kd.V_alloc | apply Kd.V_drewN | apply Kd.V_drew)); exact Kd.V_mono (Kd.V_far (p := ⟨go96, ((ji93) : Int).toNat, none⟩) (Kd.V_mono HO_297003.out (fun k_ hk => (⟨hk, fun e_ => hk.2.1 (by rw [e_]; rfl)⟩ : _ ∧ k_ ≠ go96))) (fun _ hk => hk.2) (.int .i64 (wrap64 ((rd x307002_2 (ji93)) + a3)))) (fun _ hk => ⟨hk.1.1, ⟨hk.1.2.1, ⟨hk.1.2.2.1, ⟨hk.1.2.2.2.1, ⟨hk.1.2.2.2.2.1, ⟨hk.1.2.2.2.2.2.1, ⟨hk.1.2.2.2.2.2.2.1, hk.1.2.2.2.2.2.2.2⟩⟩⟩⟩⟩⟩⟩)⟩
             have n2_ : Aside0 (Kd.R (Kd.int .i64) 3 (w118.setCell ⟨go96, ((ji93) : Int).toNat, none⟩ (.int .i64 (wrap64 ((rd x307002_2 (ji93)) + a3)))) w.heap.size (fun k_ => (w.heap.size ≤ k_)) (.slice (some ⟨go96, 0, none⟩) x307002_2.length co107) y313) := ⟨by (with_reducible repeat (first | apply Kd.R_alloc | apply Kd.R_drewN | apply Kd.R_drew)); exact HQ119.out⟩
             have n3_ : Aside0 ((w118.setCell ⟨go96, ((ji93) : Int).toNat, none⟩ (.int .i64 (wrap64 ((rd x307002_2 (ji93)) + a3)))).heap[gb295]? = some (.cells #[.int .i64 a0_0, .int .i64 a0_1, .int .i64 a0_2, .int .i64 a0_3] 23 (0, 0))) := ⟨by (with_reducible repeat (first | refine blk_drewN ?_ _ | refine blk_drew ?_ | refine blk_alloc ?_ _)); refine blk_far ?_ (by have h_ := Kd.R_ne HO_307002.out BK295.out (by decide); intro e_; exact h_ (by rw [e_]; rfl)) _; (with_reducible repeat (first | refine blk_drewN ?_ _ | refine blk_drew ?_ | refine blk_alloc ?_ _)); exact BK295.out⟩
             have n4_ : Aside0 ((w118.setCell ⟨go96, ((ji93) : Int).toNat, none⟩ (.int .i64 (wrap64 ((rd x307002_2 (ji93)) + a3)))).heap[gb296]? = some (.cells #[.int .i64 a1_0, .int .i64 a1_1, u297002, .slice A1_3 l1_3.length c1_3] 27 (0, 0))) := ⟨by (with_reducible repeat (first | refine blk_drewN ?_ _ | refine blk_drew ?_ | refine blk_alloc ?_ _)); refine blk_far ?_ (by have h_ := Kd.R_ne HO_307002.out BK296.out (by decide); intro e_; exact h_ (by rw [e_]; rfl)) _; (with_reducible repeat (first | refine blk_drewN ?_ _ | refine blk_drew ?_ | refine blk_alloc ?_ _)); exact BK296.out⟩
             have n5_ : Aside0 ((w118.setCell ⟨go96, ((ji93) : Int).toNat, none⟩ (.int .i64 (wrap64 ((rd x307002_2 (ji93)) + a3)))).heap[gb297]? = some (.cells #[.int .i64 0, .int .i64 0, .slice none 0 0, .slice none 0 0] 27 (0, 0))) := ⟨by (with_reducible repeat (first | refine blk_drewN ?_ _ | refine blk_drew ?_ | refine blk_alloc ?_ _)); refine blk_far ?_ (by have h_ := Kd.R_ne HO_307002.out BK297.out (by decide); intro e_; exact h_ (by rw [e_]; rfl)) _; (with_reducible repeat (first | refine blk_drewN ?_ _ | refine blk_drew ?_ | refine blk_alloc ?_ _)); exact BK297.out⟩
             have n6_ : Aside0 ((w118.setCell ⟨go96, ((ji93) : Int).toNat, none⟩ (.int .i64 (wrap64 ((rd x307002_2 (ji93)) + a3)))).heap[gb298]? = some (.cells #[.bool false, .int .i64 0, .int .i64 0, .int .i64 0] 32 (0, 0))) := ⟨by (with_reducible repeat (first | refine blk_drewN ?_ _ | refine blk_drew ?_ | refine blk_alloc ?_ _)); refine blk_far ?_ (by have h_ := Kd.R_ne HO_307002.out BK298.out (by decide); intro e_; exact h_ (by rw [e_]; rfl)) _; (with_reducible repeat (first | refine blk_drewN ?_ _ | refine blk_drew ?_ | refine blk_alloc ?_ _)); exact BK298.out⟩
             have n7_ : Aside0 ((w118.setCell ⟨go96, ((ji93) : Int).toNat, none⟩ (.int .i64 (wrap64 ((rd x307002_2 (ji93)) + a3)))).heap[gb306]? = some (.cells #[.int .i64 ji49, .int .i64 0, .slice (some ⟨go96, 0, none⟩) x307002_2.length co107, .slice none 0 0] 27 (0, 0))) := ⟨by (with_reducible repeat (first | refine blk_drewN ?_ _ | refine blk_drew ?_ | refine blk_alloc ?_ _)); refine blk_far ?_ (by have h_ := Kd.R_ne HO_307002.out BK306.out (by decide); intro e_; exact h_ (by rw [e_]; rfl)) _; (with_reducible repeat (first | refine blk_drewN ?_ _ | refine blk_drew ?_ | refine blk_alloc ?_ _)); exact BK306.out⟩
             have n8_ : Aside0 ((w118.setCell ⟨go96, ((ji93) : Int).toNat, none⟩ (.int .i64 (wrap64 ((rd x307002_2 (ji93)) + a3)))).heap[gb311]? = some (.cells #[.bool true, .int .i64 0, .int .i64 0, .int .i64 0] 32 (0, 0))) := ⟨by (with_reducible repeat (first | refine blk_drewN ?_ _ | refine blk_drew ?_ | refine blk_alloc ?_ _)); refine blk_far ?_ (by have h_ := Kd.R_ne HO_307002.out BK311.out (by decide); intro e_; exact h_ (by rw [e_]; rfl)) _; (with_reducible repeat (first | refine blk_drewN ?_ _ | refine blk_drew ?_ | refine blk_alloc ?_ _)); exact BK311.out⟩
             have n9_ : Aside0 (Below w.heap.size w (w118.setCell ⟨go96, ((ji93) : Int).toNat, none⟩ (.int .i64 (wrap64 ((rd x307002_2 (ji93)) + a3))))) := ⟨bl HB⟩
             (try clear HO_297002)
             (try clear HO_297003)
             (try clear HO_307002)
             (try clear BK295)
             (try clear BK296)
             (try clear BK297)
             (try clear BK298)
             (try clear BK306)
             (try clear BK311)
             (try clear HB)
             generalize (w118.setCell ⟨go96, ((ji93) : Int).toNat, none⟩ (.int .i64 (wrap64 ((rd x307002_2 (ji93)) + a3)))) = w120 at n0_ n1_ n2_ n3_ n4_ n5_ n6_ n7_ n8_ n9_ ⊢
             have HO_297002 := n0_
             have HO_297003 := n1_
             have HO_307002 := n2_
             have BK295 := n3_
             have BK296 := n4_
             have BK297 := n5_
             have BK298 := n6_
             have BK306 := n7_
             have BK311 := n8_
             have HB := n9_
             clear n0_ n1_ n2_ n3_ n4_ n5_ n6_ n7_ n8_ n9_
             obtain ⟨hcz121_0, hcz121_1, hcz121_2, hcz121_3⟩ := ce4 BK295
             obtain ⟨hfz121_0, hfz121_1, hfz121_2, hfz121_3⟩ := fr4 BK295
             obtain ⟨hcz122_0, hcz122_1, hcz122_2, hcz122_3⟩ := ce4 BK311
             obtain ⟨hfz122_0, hfz122_1, hfz122_2, hfz122_3⟩ := fr4 BK311
             obtain ⟨hcz123_0, hcz123_1, hcz123_2, hcz123_3⟩ := ce4 BK306
             obtain ⟨hfz123_0, hfz123_1, hfz123_2, hfz123_3⟩ := fr4 BK306
             try go_wp2_with (first | ((with_reducible refine gate_callee (f := 31) rfl ?_); refine goesL_ (some 129) rfl rfl Try.func31 (by kernel_rfl) rfl #[.agg #[.int .i64 a0_0, .int .i64 a0_1, .int .i64 a0_2, .int .i64 a0_3], .agg #[.int .i64 ji49, .int .i64 0, .slice (some ⟨go96, 0, none⟩) y313.length co107, .slice none 0 0], .int .i64 ji49, .int .i64 0] rfl (by (try simp only [List.map_toArray, List.map_cons, List.map_nil]); first | done | (rw [show y313.length = x307002_2.length from (Kd.R_reads' HO_307002.out).1.symm] <;> rfl) | (simp only [hji49]; rfl) | rfl | (simp only [List.length_drop, List.length_take]; rfl)) ?_; (refine (sandglassref12_wait.calls k2 a0_0 a0_1 a0_2 a0_3 ji49 0 _ _ y313 _ _ ([] : List (S54)) ji49 0 t314 _ ?side1 ?side2 ?side3 ?side4 A97.out).mono ?_); (case side1 => refine (Kd.R_reads' (e := 3) (base := w.heap.size) (ok := fun k_ => (w.heap.size ≤ k_)) (n := x307002_2.length) (c := co107) ?_).2.2; exact (by (with_reducible repeat (first | apply Kd.R_alloc | apply Kd.R_drewN | apply Kd.R_drew)); exact (Kd.R_mono (Kd.R_far (p := ⟨gb311, 1, none⟩) (Kd.R_types HO_307002.out BK311.out (by decide)) (fun _ hk => hk.2) (.int .i64 (wrap64 (a0_1 - (wrap64 (t310 + a3)))))) (fun _ h_ => h_.1)))); (case side2 => rw [show y313.length = x307002_2.length from (Kd.R_reads' HO_307002.out).1.symm]; exact (Kd.R_reads' HO_307002.out).2.1); (case side3 => exact Kd.C_nil _ _); (case side4 => exact Nat.le_refl _); rintro e w124 ⟨rfl, hb⟩; refine ⟨_, rfl, ?_⟩; replace HO_297002 := Aside0.mk (Kd.V_below (by (with_reducible repeat (first | apply Kd.V_alloc | apply Kd.V_drewN | apply Kd.V_drew)); exact (Kd.V_mono (Kd.V_far (p := ⟨gb311, 1, none⟩) (Kd.V_mono HO_297002.out (fun k_ hk => (⟨hk, hk.2.2.2.2.2.2.2⟩ : _ ∧ k_ ≠ gb311))) (fun _ hk => hk.2) (.int .i64 (wrap64 (a0_1 - (wrap64 (t310 + a3)))))) (fun _ h_ => h_.1))) hb); replace HO_297003 := Aside0.mk (Kd.V_below (by (with_reducible repeat (first | apply Kd.V_alloc | apply Kd.V_drewN | apply Kd.V_drew)); exact (Kd.V_mono (Kd.V_far (p := ⟨gb311, 1, none⟩) (Kd.V_mono HO_297003.out (fun k_ hk => (⟨hk, hk.2.2.2.2.2.2.2⟩ : _ ∧ k_ ≠ gb311))) (fun _ hk => hk.2) (.int .i64 (wrap64 (a0_1 - (wrap64 (t310 + a3)))))) (fun _ h_ => h_.1))) hb); replace HO_307002 := Aside0.mk (Kd.R_below (by (with_reducible repeat (first | apply Kd.R_alloc | apply Kd.R_drewN | apply Kd.R_drew)); exact (Kd.R_mono (Kd.R_far (p := ⟨gb311, 1, none⟩) (Kd.R_types HO_307002.out BK311.out (by decide)) (fun _ hk => hk.2) (.int .i64 (wrap64 (a0_1 - (wrap64 (t310 + a3)))))) (fun _ h_ => h_.1))) hb); replace BK295 := Aside0.mk (blk_below (g := gb295) (o := .cells #[.int .i64 a0_0, .int .i64 a0_1, .int .i64 a0_2, .int .i64 a0_3] 23 (0, 0)) (by (with_reducible repeat (first | refine blk_drewN ?_ _ | refine blk_drew ?_ | refine blk_alloc ?_ _)); refine blk_far ?_ NB295_311.out _; (with_reducible repeat (first | refine blk_drewN ?_ _ | refine blk_drew ?_ | refine blk_alloc ?_ _)); exact BK295.out) hb); replace BK296 := Aside0.mk (blk_below (g := gb296) (o := .cells #[.int .i64 a1_0, .int .i64 a1_1, u297002, .slice A1_3 l1_3.length c1_3] 27 (0, 0)) (by (with_reducible repeat (first | refine blk_drewN ?_ _ | refine blk_drew ?_ | refine blk_alloc ?_ _)); refine blk_far ?_ NB296_311.out _; (with_reducible repeat (first | refine blk_drewN ?_ _ | refine blk_drew ?_ | refine blk_alloc ?_ _)); exact BK296.out) hb); replace BK297 := Aside0.mk (blk_below (g := gb297) (o := .cells #[.int .i64 0, .int .i64 0, .slice none 0 0, .slice none 0 0] 27 (0, 0)) (by (with_reducible repeat (first | refine blk_drewN ?_ _ | refine blk_drew ?_ | refine blk_alloc ?_ _)); refine blk_far ?_ NB297_311.out _; (with_reducible repeat (first | refine blk_drewN ?_ _ | refine blk_drew ?_ | refine blk_alloc ?_ _)); exact BK297.out) hb); replace BK298 := Aside0.mk (blk_below (g := gb298) (o := .cells #[.bool false, .int .i64 0, .int .i64 0, .int .i64 0] 32 (0, 0)) (by (with_reducible repeat (first | refine blk_drewN ?_ _ | refine blk_drew ?_ | refine blk_alloc ?_ _)); refine blk_far ?_ NB298_311.out _; (with_reducible repeat (first | refine blk_drewN ?_ _ | refine blk_drew ?_ | refine blk_alloc ?_ _)); exact BK298.out) hb); replace BK306 := Aside0.mk (blk_below (g := gb306) (o := .cells #[.int .i64 ji49, .int .i64 0, .slice (some ⟨go96, 0, none⟩) x307002_2.length co107, .slice none 0 0] 27 (0, 0)) (by (with_reducible repeat (first | refine blk_drewN ?_ _ | refine blk_drew ?_ | refine blk_alloc ?_ _)); refine blk_far ?_ NB306_311.out _; (with_reducible repeat (first | refine blk_drewN ?_ _ | refine blk_drew ?_ | refine blk_alloc ?_ _)); exact BK306.out) hb); replace BK311 := Aside0.mk (blk_below (g := gb311) (o := .cells #[.bool true, .int .i64 (wrap64 (a0_1 - (wrap64 (t310 + a3)))), .int .i64 0, .int .i64 0] 32 (0, 0)) (by (with_reducible repeat (first | refine blk_drewN ?_ _ | refine blk_drew ?_ | refine blk_alloc ?_ _)); refine blk_put (cs := #[.bool true, .int .i64 0, .int .i64 0, .int .i64 0]) ?_ 1 _ rfl; (with_reducible repeat (first | refine blk_drewN ?_ _ | refine blk_drew ?_ | refine blk_alloc ?_ _)); exact BK311.out) hb); replace HB := Aside0.mk (below_step (bl HB) hb); (try clear hb); (try clear hb2); (try clear hk); (try clear hi); obtain ⟨hcz125_0, hcz125_1, hcz125_2, hcz125_3⟩ := ce4 BK311; obtain ⟨hfz125_0, hfz125_1, hfz125_2, hfz125_3⟩ := fr4 BK311))
             have n0_ : Aside0 (Kd.V (Kd.int .i64) 3 (w124.setCell ⟨gb311, 3, none⟩ (.int .i64 t314)) w.heap.size (fun k_ => ((P1_2_ k_ ∨ P1_3_ k_) ∨ w.heap.size ≤ k_) ∧ some k_ ≠ (.slice (some ⟨go96, 0, none⟩) x307002_2.length co107 : Value).ownBlock ∧ k_ ≠ gb295 ∧ k_ ≠ gb296 ∧ k_ ≠ gb297 ∧ k_ ≠ gb298 ∧ k_ ≠ gb306 ∧ k_ ≠ gb311) u297002 x297002_2) := ⟨by (with_reducible repeat (first | apply Kd.V_alloc | apply Kd.V_drewN | apply Kd.V_drew)); exact Kd.V_mono (Kd.V_far (p := ⟨gb311, 3, none⟩) (Kd.V_mono HO_297002.out (fun k_ hk => (⟨hk, hk.2.2.2.2.2.2.2⟩ : _ ∧ k_ ≠ gb311))) (fun _ hk => hk.2) (.int .i64 t314)) (fun _ hk => ⟨hk.1.1, ⟨hk.1.2.1, ⟨hk.1.2.2.1, ⟨hk.1.2.2.2.1, ⟨hk.1.2.2.2.2.1, ⟨hk.1.2.2.2.2.2.1, ⟨hk.1.2.2.2.2.2.2.1, hk.1.2.2.2.2.2.2.2⟩⟩⟩⟩⟩⟩⟩)⟩
             have n1_ : Aside0 (Kd.V k54 54 (w124.setCell ⟨gb311, 3, none⟩ (.int .i64 t314)) w.heap.size (fun k_ => ((P1_2_ k_ ∨ P1_3_ k_) ∨ w.heap.size ≤ k_) ∧ some k_ ≠ (.slice (some ⟨go96, 0, none⟩) x307002_2.length co107 : Value).ownBlock ∧ k_ ≠ gb295 ∧ k_ ≠ gb296 ∧ k_ ≠ gb297 ∧ k_ ≠ gb298 ∧ k_ ≠ gb306 ∧ k_ ≠ gb311) (.slice A1_3 l1_3.length c1_3) l1_3) := ⟨by (with_reducible repeat (first | apply Kd.V_alloc | apply Kd.V_drewN | apply Kd.V_drew)); exact Kd.V_mono (Kd.V_far (p := ⟨gb311, 3, none⟩) (Kd.V_mono HO_297003.out (fun k_ hk => (⟨hk, hk.2.2.2.2.2.2.2⟩ : _ ∧ k_ ≠ gb311))) (fun _ hk => hk.2) (.int .i64 t314)) (fun _ hk => ⟨hk.1.1, ⟨hk.1.2.1, ⟨hk.1.2.2.1, ⟨hk.1.2.2.2.1, ⟨hk.1.2.2.2.2.1, ⟨hk.1.2.2.2.2.2.1, ⟨hk.1.2.2.2.2.2.2.1, hk.1.2.2.2.2.2.2.2⟩⟩⟩⟩⟩⟩⟩)⟩
             have n2_ : Aside0 (Kd.R (Kd.int .i64) 3 (w124.setCell ⟨gb311, 3, none⟩ (.int .i64 t314)) w.heap.size (fun k_ => (w.heap.size ≤ k_)) (.slice (some ⟨go96, 0, none⟩) x307002_2.length co107) y313) := ⟨by (with_reducible repeat (first | apply Kd.R_alloc | apply Kd.R_drewN | apply Kd.R_drew)); exact Kd.R_mono (Kd.R_far (p := ⟨gb311, 3, none⟩) (Kd.R_types HO_307002.out BK311.out (by decide)) (fun _ hk => hk.2) (.int .i64 t314)) (fun _ hk => hk.1)⟩
             have n3_ : Aside0 ((w124.setCell ⟨gb311, 3, none⟩ (.int .i64 t314)).heap[gb295]? = some (.cells #[.int .i64 a0_0, .int .i64 a0_1, .int .i64 a0_2, .int .i64 a0_3] 23 (0, 0))) := ⟨by (with_reducible repeat (first | refine blk_drewN ?_ _ | refine blk_drew ?_ | refine blk_alloc ?_ _)); refine blk_far ?_ NB295_311.out _; (with_reducible repeat (first | refine blk_drewN ?_ _ | refine blk_drew ?_ | refine blk_alloc ?_ _)); exact BK295.out⟩
             have n4_ : Aside0 ((w124.setCell ⟨gb311, 3, none⟩ (.int .i64 t314)).heap[gb296]? = some (.cells #[.int .i64 a1_0, .int .i64 a1_1, u297002, .slice A1_3 l1_3.length c1_3] 27 (0, 0))) := ⟨by (with_reducible repeat (first | refine blk_drewN ?_ _ | refine blk_drew ?_ | refine blk_alloc ?_ _)); refine blk_far ?_ NB296_311.out _; (with_reducible repeat (first | refine blk_drewN ?_ _ | refine blk_drew ?_ | refine blk_alloc ?_ _)); exact BK296.out⟩
             have n5_ : Aside0 ((w124.setCell ⟨gb311, 3, none⟩ (.int .i64 t314)).heap[gb297]? = some (.cells #[.int .i64 0, .int .i64 0, .slice none 0 0, .slice none 0 0] 27 (0, 0))) := ⟨by (with_reducible repeat (first | refine blk_drewN ?_ _ | refine blk_drew ?_ | refine blk_alloc ?_ _)); refine blk_far ?_ NB297_311.out _; (with_reducible repeat (first | refine blk_drewN ?_ _ | refine blk_drew ?_ | refine blk_alloc ?_ _)); exact BK297.out⟩
             have n6_ : Aside0 ((w124.setCell ⟨gb311, 3, none⟩ (.int .i64 t314)).heap[gb298]? = some (.cells #[.bool false, .int .i64 0, .int .i64 0, .int .i64 0] 32 (0, 0))) := ⟨by (with_reducible repeat (first | refine blk_drewN ?_ _ | refine blk_drew ?_ | refine blk_alloc ?_ _)); refine blk_far ?_ NB298_311.out _; (with_reducible repeat (first | refine blk_drewN ?_ _ | refine blk_drew ?_ | refine blk_alloc ?_ _)); exact BK298.out⟩
             have n7_ : Aside0 ((w124.setCell ⟨gb311, 3, none⟩ (.int .i64 t314)).heap[gb306]? = some (.cells #[.int .i64 ji49, .int .i64 0, .slice (some ⟨go96, 0, none⟩) x307002_2.length co107, .slice none 0 0] 27 (0, 0))) := ⟨by (with_reducible repeat (first | refine blk_drewN ?_ _ | refine blk_drew ?_ | refine blk_alloc ?_ _)); refine blk_far ?_ NB306_311.out _; (with_reducible repeat (first | refine blk_drewN ?_ _ | refine blk_drew ?_ | refine blk_alloc ?_ _)); exact BK306.out⟩
             have n8_ : Aside0 ((w124.setCell ⟨gb311, 3, none⟩ (.int .i64 t314)).heap[gb311]? = some (.cells #[.bool true, .int .i64 (wrap64 (a0_1 - (wrap64 (t310 + a3)))), .int .i64 0, .int .i64 t314] 32 (0, 0))) := ⟨by (with_reducible repeat (first | refine blk_drewN ?_ _ | refine blk_drew ?_ | refine blk_alloc ?_ _)); refine blk_put (cs := #[.bool true, .int .i64 (wrap64 (a0_1 - (wrap64 (t310 + a3)))), .int .i64 0, .int .i64 0]) ?_ 3 _ rfl; (with_reducible repeat (first | refine blk_drewN ?_ _ | refine blk_drew ?_ | refine blk_alloc ?_ _)); exact BK311.out⟩
             have n9_ : Aside0 (Below w.heap.size w (w124.setCell ⟨gb311, 3, none⟩ (.int .i64 t314))) := ⟨bl HB⟩
             (try clear HO_297002)
             (try clear HO_297003)
             (try clear HO_307002)
             (try clear BK295)
             (try clear BK296)
             (try clear BK297)
             (try clear BK298)
             (try clear BK306)
             (try clear BK311)
             (try clear HB)
             generalize (w124.setCell ⟨gb311, 3, none⟩ (.int .i64 t314)) = w126 at n0_ n1_ n2_ n3_ n4_ n5_ n6_ n7_ n8_ n9_ ⊢
             have HO_297002 := n0_
             have HO_297003 := n1_
             have HO_307002 := n2_
             have BK295 := n3_
             have BK296 := n4_
             have BK297 := n5_
             have BK298 := n6_
             have BK306 := n7_
             have BK311 := n8_
             have HB := n9_
             clear n0_ n1_ n2_ n3_ n4_ n5_ n6_ n7_ n8_ n9_
             replace HO_297002 := Aside0.mk (Kd.V_drew HO_297002.out)
             replace HO_297003 := Aside0.mk (Kd.V_drew HO_297003.out)
             replace HO_307002 := Aside0.mk (Kd.R_drew HO_307002.out)
             replace BK295 := Aside0.mk (blk_drew BK295.out)
             replace BK296 := Aside0.mk (blk_drew BK296.out)
             replace BK297 := Aside0.mk (blk_drew BK297.out)
             replace BK298 := Aside0.mk (blk_drew BK298.out)
             replace BK306 := Aside0.mk (blk_drew BK306.out)
             replace BK311 := Aside0.mk (blk_drew BK311.out)
             replace HB := Aside0.mk (below_drew1 HB.out)
             refine start_ (n := 4) (S := fun w' => w'.cell? ⟨gb306, 0, none⟩ = some (.int .i64 ji49) ∧ w'.cell? ⟨gb306, 1, none⟩ = some (.int .i64 0) ∧ w'.cell? ⟨gb306, 2, none⟩ = some (.slice (some ⟨go96, 0, none⟩) x307002_2.length co107) ∧ w'.cell? ⟨gb306, 3, none⟩ = some (.slice none 0 0) ∧ w'.cell? ⟨gb311, 0, none⟩ = some (.bool true) ∧ w'.cell? ⟨gb311, 1, none⟩ = some (.int .i64 (wrap64 (a0_1 - (wrap64 (t310 + a3))))) ∧ w'.cell? ⟨gb311, 2, none⟩ = some (.int .i64 0) ∧ w'.cell? ⟨gb311, 3, none⟩ = some (.int .i64 t314)) (ds := []) #[false, false, false, false] (by kernel_rfl) rfl rfl ⟨(blk_cell BK306.out 0).trans rfl, (blk_cell BK306.out 1).trans rfl, (blk_cell BK306.out 2).trans rfl, (blk_cell BK306.out 3).trans rfl, (blk_cell BK311.out 0).trans rfl, (blk_cell BK311.out 1).trans rfl, (blk_cell BK311.out 2).trans rfl, (blk_cell BK311.out 3).trans rfl⟩ (fun hHeld => ?_)
             generalize w126.drew = w127 at HO_297002 HO_297003 HO_307002 BK295 BK296 BK297 BK298 BK306 BK311 HB hHeld ⊢
             refine takeB' 0 131 hHeld ?_
             refine takeB' 1 132 hHeld ?_
             refine one_ (i := 2) (N := none) #[true, true, true, false] rfl rfl (by kernel_rfl) (by decide) (fun K hK => ?_)
             have hs128 : w127.cell? ⟨gb297, 0, none⟩ = some (.int .i64 0) := (blk_cell BK297.out 0).trans rfl
             have hfs128 := blk_frozen BK297.out 0
             have hns128_0 := NB295_297.out
             have hns128_1 := NB296_297.out
             have hns128_3 := NB298_297.out
             have hns128_4 := NB306_297.out
             have hns128_5 := NB311_297.out
             have hms128_0 := NB297_295.out
             have hms128_1 := NB297_296.out
             have hms128_3 := NB297_298.out
             have hms128_4 := NB297_306.out
             have hms128_5 := NB297_311.out
             have hs129 : w127.cell? ⟨gb297, 1, none⟩ = some (.int .i64 0) := (blk_cell BK297.out 1).trans rfl
             have hfs129 := blk_frozen BK297.out 1
             have hns129_0 := NB295_297.out
             have hns129_1 := NB296_297.out
             have hns129_3 := NB298_297.out
             have hns129_4 := NB306_297.out
             have hns129_5 := NB311_297.out
             have hms129_0 := NB297_295.out
             have hms129_1 := NB297_296.out
             have hms129_3 := NB297_298.out
             have hms129_4 := NB297_306.out
             have hms129_5 := NB297_311.out
             have hs130 : w127.cell? ⟨gb297, 2, none⟩ = some (.slice none 0 0) := (blk_cell BK297.out 2).trans rfl
             have hfs130 := blk_frozen BK297.out 2
             have hns130_0 := NB295_297.out
             have hns130_1 := NB296_297.out
             have hns130_3 := NB298_297.out
             have hns130_4 := NB306_297.out
             have hns130_5 := NB311_297.out
             have hms130_0 := NB297_295.out
             have hms130_1 := NB297_296.out
             have hms130_3 := NB297_298.out
             have hms130_4 := NB297_306.out
             have hms130_5 := NB297_311.out
             have hs131 : w127.cell? ⟨gb297, 3, none⟩ = some (.slice none 0 0) := (blk_cell BK297.out 3).trans rfl
             have hfs131 := blk_frozen BK297.out 3
             have hns131_0 := NB295_297.out
             have hns131_1 := NB296_297.out
             have hns131_3 := NB298_297.out
             have hns131_4 := NB306_297.out
             have hns131_5 := NB311_297.out
             have hms131_0 := NB297_295.out
             have hms131_1 := NB297_296.out
             have hms131_3 := NB297_298.out
             have hms131_4 := NB297_306.out
             have hms131_5 := NB297_311.out
             refine skip_ (w1 := ?_) (by rfl) rfl ?_ ?_
             rotate_left
             ·go_simp
              rfl
             refine hK.out _ _ ⟨((cell_far (p := ⟨gb297, _, none⟩) NB306_297.out _).trans (((cell_far (p := ⟨gb297, _, none⟩) NB306_297.out _).trans (((cell_far (p := ⟨gb297, _, none⟩) NB306_297.out _).trans (((cell_far (p := ⟨gb297, _, none⟩) NB306_297.out _).trans (hHeld.1)))))))), ((cell_far (p := ⟨gb297, _, none⟩) NB306_297.out _).trans (((cell_far (p := ⟨gb297, _, none⟩) NB306_297.out _).trans (((cell_far (p := ⟨gb297, _, none⟩) NB306_297.out _).trans (((cell_far (p := ⟨gb297, _, none⟩) NB306_297.out _).trans (hHeld.2.1)))))))), ((cell_far (p := ⟨gb297, _, none⟩) NB306_297.out _).trans (((cell_far (p := ⟨gb297, _, none⟩) NB306_297.out _).trans (((cell_far (p := ⟨gb297, _, none⟩) NB306_297.out _).trans (((cell_far (p := ⟨gb297, _, none⟩) NB306_297.out _).trans (hHeld.2.2.1)))))))), ((cell_far (p := ⟨gb297, _, none⟩) NB306_297.out _).trans (((cell_far (p := ⟨gb297, _, none⟩) NB306_297.out _).trans (((cell_far (p := ⟨gb297, _, none⟩) NB306_297.out _).trans (((cell_far (p := ⟨gb297, _, none⟩) NB306_297.out _).trans (hHeld.2.2.2.1)))))))), ((cell_far (p := ⟨gb297, _, none⟩) NB311_297.out _).trans (((cell_far (p := ⟨gb297, _, none⟩) NB311_297.out _).trans (((cell_far (p := ⟨gb297, _, none⟩) NB311_297.out _).trans (((cell_far (p := ⟨gb297, _, none⟩) NB311_297.out _).trans (hHeld.2.2.2.2.1)))))))), ((cell_far (p := ⟨gb297, _, none⟩) NB311_297.out _).trans (((cell_far (p := ⟨gb297, _, none⟩) NB311_297.out _).trans (((cell_far (p := ⟨gb297, _, none⟩) NB311_297.out _).trans (((cell_far (p := ⟨gb297, _, none⟩) NB311_297.out _).trans (hHeld.2.2.2.2.2.1)))))))), ((cell_far (p := ⟨gb297, _, none⟩) NB311_297.out _).trans (((cell_far (p := ⟨gb297, _, none⟩) NB311_297.out _).trans (((cell_far (p := ⟨gb297, _, none⟩) NB311_297.out _).trans (((cell_far (p := ⟨gb297, _, none⟩) NB311_297.out _).trans (hHeld.2.2.2.2.2.2.1)))))))), ((cell_far (p := ⟨gb297, _, none⟩) NB311_297.out _).trans (((cell_far (p := ⟨gb297, _, none⟩) NB311_297.out _).trans (((cell_far (p := ⟨gb297, _, none⟩) NB311_297.out _).trans (((cell_far (p := ⟨gb297, _, none⟩) NB311_297.out _).trans (hHeld.2.2.2.2.2.2.2))))))))⟩ (fun hHeld => ?_)
             clear hK K
             refine one_ (i := 3) (N := none) #[true, true, true, true] rfl rfl (by kernel_rfl) (by decide) (fun K hK => ?_)
             have hs132 : w127.cell? ⟨gb298, 0, none⟩ = some (.bool false) := (blk_cell BK298.out 0).trans rfl
             have hfs132 := blk_frozen BK298.out 0
             have hns132_0 := NB295_298.out
             have hns132_1 := NB296_298.out
             have hns132_2 := NB297_298.out
             have hns132_4 := NB306_298.out
             have hns132_5 := NB311_298.out
             have hms132_0 := NB298_295.out
             have hms132_1 := NB298_296.out
             have hms132_2 := NB298_297.out
             have hms132_4 := NB298_306.out
             have hms132_5 := NB298_311.out
             have hs133 : w127.cell? ⟨gb298, 1, none⟩ = some (.int .i64 0) := (blk_cell BK298.out 1).trans rfl
             have hfs133 := blk_frozen BK298.out 1
             have hns133_0 := NB295_298.out
             have hns133_1 := NB296_298.out
             have hns133_2 := NB297_298.out
             have hns133_4 := NB306_298.out
             have hns133_5 := NB311_298.out
             have hms133_0 := NB298_295.out
             have hms133_1 := NB298_296.out
             have hms133_2 := NB298_297.out
             have hms133_4 := NB298_306.out
             have hms133_5 := NB298_311.out
             have hs134 : w127.cell? ⟨gb298, 2, none⟩ = some (.int .i64 0) := (blk_cell BK298.out 2).trans rfl
             have hfs134 := blk_frozen BK298.out 2
             have hns134_0 := NB295_298.out
             have hns134_1 := NB296_298.out
             have hns134_2 := NB297_298.out
             have hns134_4 := NB306_298.out
             have hns134_5 := NB311_298.out
             have hms134_0 := NB298_295.out
             have hms134_1 := NB298_296.out
             have hms134_2 := NB298_297.out
             have hms134_4 := NB298_306.out
             have hms134_5 := NB298_311.out
             have hs135 : w127.cell? ⟨gb298, 3, none⟩ = some (.int .i64 0) := (blk_cell BK298.out 3).trans rfl
             have hfs135 := blk_frozen BK298.out 3
             have hns135_0 := NB295_298.out
             have hns135_1 := NB296_298.out
             have hns135_2 := NB297_298.out
             have hns135_4 := NB306_298.out
             have hns135_5 := NB311_298.out
             have hms135_0 := NB298_295.out
             have hms135_1 := NB298_296.out
             have hms135_2 := NB298_297.out
             have hms135_4 := NB298_306.out
             have hms135_5 := NB298_311.out
             refine skip_ (w1 := ?_) (by rfl) rfl ?_ ?_
             rotate_left
             ·go_simp
              rfl
             refine hK.out _ _ ⟨((cell_far (p := ⟨gb298, _, none⟩) NB306_298.out _).trans (((cell_far (p := ⟨gb298, _, none⟩) NB306_298.out _).trans (((cell_far (p := ⟨gb298, _, none⟩) NB306_298.out _).trans (((cell_far (p := ⟨gb298, _, none⟩) NB306_298.out _).trans (hHeld.1)))))))), ((cell_far (p := ⟨gb298, _, none⟩) NB306_298.out _).trans (((cell_far (p := ⟨gb298, _, none⟩) NB306_298.out _).trans (((cell_far (p := ⟨gb298, _, none⟩) NB306_298.out _).trans (((cell_far (p := ⟨gb298, _, none⟩) NB306_298.out _).trans (hHeld.2.1)))))))), ((cell_far (p := ⟨gb298, _, none⟩) NB306_298.out _).trans (((cell_far (p := ⟨gb298, _, none⟩) NB306_298.out _).trans (((cell_far (p := ⟨gb298, _, none⟩) NB306_298.out _).trans (((cell_far (p := ⟨gb298, _, none⟩) NB306_298.out _).trans (hHeld.2.2.1)))))))), ((cell_far (p := ⟨gb298, _, none⟩) NB306_298.out _).trans (((cell_far (p := ⟨gb298, _, none⟩) NB306_298.out _).trans (((cell_far (p := ⟨gb298, _, none⟩) NB306_298.out _).trans (((cell_far (p := ⟨gb298, _, none⟩) NB306_298.out _).trans (hHeld.2.2.2.1)))))))), ((cell_far (p := ⟨gb298, _, none⟩) NB311_298.out _).trans (((cell_far (p := ⟨gb298, _, none⟩) NB311_298.out _).trans (((cell_far (p := ⟨gb298, _, none⟩) NB311_298.out _).trans (((cell_far (p := ⟨gb298, _, none⟩) NB311_298.out _).trans (hHeld.2.2.2.2.1)))))))), ((cell_far (p := ⟨gb298, _, none⟩) NB311_298.out _).trans (((cell_far (p := ⟨gb298, _, none⟩) NB311_298.out _).trans (((cell_far (p := ⟨gb298, _, none⟩) NB311_298.out _).trans (((cell_far (p := ⟨gb298, _, none⟩) NB311_298.out _).trans (hHeld.2.2.2.2.2.1)))))))), ((cell_far (p := ⟨gb298, _, none⟩) NB311_298.out _).trans (((cell_far (p := ⟨gb298, _, none⟩) NB311_298.out _).trans (((cell_far (p := ⟨gb298, _, none⟩) NB311_298.out _).trans (((cell_far (p := ⟨gb298, _, none⟩) NB311_298.out _).trans (hHeld.2.2.2.2.2.2.1)))))))), ((cell_far (p := ⟨gb298, _, none⟩) NB311_298.out _).trans (((cell_far (p := ⟨gb298, _, none⟩) NB311_298.out _).trans (((cell_far (p := ⟨gb298, _, none⟩) NB311_298.out _).trans (((cell_far (p := ⟨gb298, _, none⟩) NB311_298.out _).trans (hHeld.2.2.2.2.2.2.2))))))))⟩ (fun hHeld => ?_)
             clear hK K
             refine done_ (by kernel_rfl) ?_
             try go_wp2
             refine bodyPost_ret (results_cc rfl _ _ gb297 gb298 27 32 #[.int .i64 ji49, .int .i64 0, .slice (some ⟨go96, 0, none⟩) x307002_2.length co107, .slice none 0 0] #[.bool true, .int .i64 (wrap64 (a0_1 - (wrap64 (t310 + a3)))), .int .i64 0, .int .i64 t314] (0, 0) (0, 0) _ _ rfl (by (with_reducible repeat (first | refine blk_drewN ?_ _ | refine blk_drew ?_ | refine blk_alloc ?_ _)); refine blk_far ?_ NB297_298.out _; (with_reducible repeat (first | refine blk_drewN ?_ _ | refine blk_drew ?_ | refine blk_alloc ?_ _)); refine blk_far ?_ NB297_298.out _; (with_reducible repeat (first | refine blk_drewN ?_ _ | refine blk_drew ?_ | refine blk_alloc ?_ _)); refine blk_far ?_ NB297_298.out _; (with_reducible repeat (first | refine blk_drewN ?_ _ | refine blk_drew ?_ | refine blk_alloc ?_ _)); refine blk_far ?_ NB297_298.out _; (with_reducible repeat (first | refine blk_drewN ?_ _ | refine blk_drew ?_ | refine blk_alloc ?_ _)); refine blk_put (cs := #[.int .i64 ji49, .int .i64 0, .slice (some ⟨go96, 0, none⟩) x307002_2.length co107, .slice none 0 0]) ?_ 3 _ rfl; (with_reducible repeat (first | refine blk_drewN ?_ _ | refine blk_drew ?_ | refine blk_alloc ?_ _)); refine blk_put (cs := #[.int .i64 ji49, .int .i64 0, .slice none 0 0, .slice none 0 0]) ?_ 2 _ rfl; (with_reducible repeat (first | refine blk_drewN ?_ _ | refine blk_drew ?_ | refine blk_alloc ?_ _)); refine blk_put (cs := #[.int .i64 ji49, .int .i64 0, .slice none 0 0, .slice none 0 0]) ?_ 1 _ rfl; (with_reducible repeat (first | refine blk_drewN ?_ _ | refine blk_drew ?_ | refine blk_alloc ?_ _)); refine blk_put (cs := #[.int .i64 0, .int .i64 0, .slice none 0 0, .slice none 0 0]) ?_ 0 _ rfl; (with_reducible repeat (first | refine blk_drewN ?_ _ | refine blk_drew ?_ | refine blk_alloc ?_ _)); exact BK297.out) Try.underlying27 rfl (by kernel_rfl) rfl (by (with_reducible repeat (first | refine blk_drewN ?_ _ | refine blk_drew ?_ | refine blk_alloc ?_ _)); refine blk_put (cs := #[.bool true, .int .i64 (wrap64 (a0_1 - (wrap64 (t310 + a3)))), .int .i64 0, .int .i64 0]) ?_ 3 _ rfl; (with_reducible repeat (first | refine blk_drewN ?_ _ | refine blk_drew ?_ | refine blk_alloc ?_ _)); refine blk_put (cs := #[.bool true, .int .i64 (wrap64 (a0_1 - (wrap64 (t310 + a3)))), .int .i64 0, .int .i64 0]) ?_ 2 _ rfl; (with_reducible repeat (first | refine blk_drewN ?_ _ | refine blk_drew ?_ | refine blk_alloc ?_ _)); refine blk_put (cs := #[.bool true, .int .i64 0, .int .i64 0, .int .i64 0]) ?_ 1 _ rfl; (with_reducible repeat (first | refine blk_drewN ?_ _ | refine blk_drew ?_ | refine blk_alloc ?_ _)); refine blk_put (cs := #[.bool false, .int .i64 0, .int .i64 0, .int .i64 0]) ?_ 0 _ rfl; (with_reducible repeat (first | refine blk_drewN ?_ _ | refine blk_drew ?_ | refine blk_alloc ?_ _)); refine blk_far ?_ NB298_297.out _; (with_reducible repeat (first | refine blk_drewN ?_ _ | refine blk_drew ?_ | refine blk_alloc ?_ _)); refine blk_far ?_ NB298_297.out _; (with_reducible repeat (first | refine blk_drewN ?_ _ | refine blk_drew ?_ | refine blk_alloc ?_ _)); refine blk_far ?_ NB298_297.out _; (with_reducible repeat (first | refine blk_drewN ?_ _ | refine blk_drew ?_ | refine blk_alloc ?_ _)); refine blk_far ?_ NB298_297.out _; (with_reducible repeat (first | refine blk_drewN ?_ _ | refine blk_drew ?_ | refine blk_alloc ?_ _)); exact BK298.out) Try.underlying32 rfl (by kernel_rfl)) rfl ?_
             exact ⟨_, _, by first | (with_reducible rfl) | (simp only [← hji49, ← hji53, ← hji93]; with_reducible rfl) | (simp only [← hji49, ← hji53, ← hji93]; done) | rfl | (simp [errW_none, errW_some] <;> rfl) | (simp only [← hji49, ← hji53, ← hji93]; first | rfl | (simp [errW_none, errW_some] <;> rfl)) | (simp [*, errW_none, errW_some] <;> rfl), Kd.V_mono (Kd.R_V (by (with_reducible repeat (first | apply Kd.R_alloc | apply Kd.R_drewN | apply Kd.R_drew)); exact Kd.R_mono (Kd.R_far (p := ⟨gb298, 3, none⟩) (Kd.R_far (p := ⟨gb298, 2, none⟩) (Kd.R_far (p := ⟨gb298, 1, none⟩) (Kd.R_far (p := ⟨gb298, 0, none⟩) (Kd.R_far (p := ⟨gb297, 3, none⟩) (Kd.R_far (p := ⟨gb297, 2, none⟩) (Kd.R_far (p := ⟨gb297, 1, none⟩) (Kd.R_far (p := ⟨gb297, 0, none⟩) (Kd.R_types (Kd.R_types HO_307002.out BK297.out (by decide)) BK298.out (by decide)) (fun _ hk => hk.1.2) (.int .i64 ji49)) (fun _ hk => hk.1.2) (.int .i64 0)) (fun _ hk => hk.1.2) (.slice (some ⟨go96, 0, none⟩) x307002_2.length co107)) (fun _ hk => hk.1.2) (.slice none 0 0)) (fun _ hk => hk.2) (.bool true)) (fun _ hk => hk.2) (.int .i64 (wrap64 (a0_1 - (wrap64 (t310 + a3)))))) (fun _ hk => hk.2) (.int .i64 0)) (fun _ hk => hk.2) (.int .i64 t314)) (fun _ hk => hk.1.1))) (fun k_ hk => by first | exact ⟨(.inr (hk.1)), hk.2⟩ | exact (.inr (hk))), Kd.V_nil _ _ _ _ _, bl HB⟩
            ·rw [if_neg c95] at H
             exact absurd H (by simp)
           ·rw [if_neg c94] at H
            exact absurd H (by simp)
         ·rw [if_neg c91] at H
          have c91b0 : decide ((wrap64 (t310 + a3)) ≤ a0_1) = false := decide_eq_false c91
          clear c91
          by_cases c136 : a3 > a0_1
          ·rw [if_pos c136] at H
           have c136b0 : decide (a0_1 < a3) = true := decide_eq_true c136
           clear c136
           replace H := Option.bind_eq_some_iff.mp H
           obtain ⟨t315, A1370, H⟩ := H
           have A137 := Aside0.mk A1370
           clear A1370
           simp only [Option.some.injEq, Prod.mk.injEq] at H
           obtain ⟨rfl, rfl, rfl, rfl, rfl, rfl, rfl, rfl⟩ := H
           have hnb138 := NB295_296.out
           have hnc138 := NB296_295.out
           have hnb139 := NB295_297.out
           have hnc139 := NB297_295.out
           have hnb140 := NB295_298.out
           have hnc140 := NB298_295.out
           have hnb141 := NB295_306.out
           have hnc141 := NB306_295.out
           obtain ⟨hcz142_0, hcz142_1, hcz142_2, hcz142_3⟩ := ce4 BK295
           obtain ⟨hfz142_0, hfz142_1, hfz142_2, hfz142_3⟩ := fr4 BK295
           have hnb143 := NB306_296.out
           have hnc143 := NB296_306.out
           have hnb144 := NB306_297.out
           have hnc144 := NB297_306.out
           have hnb145 := NB306_298.out
           have hnc145 := NB298_306.out
           obtain ⟨hcz146_0, hcz146_1, hcz146_2, hcz146_3⟩ := ce4 BK306
           obtain ⟨hfz146_0, hfz146_1, hfz146_2, hfz146_3⟩ := fr4 BK306
           obtain ⟨Ao147, co147, eo147⟩ := Kd.R_slice HO_307002.out
           subst eo147
           try go_wp2_with (first | ((with_reducible refine gate_callee (f := 30) rfl ?_); refine goesL_ (some 77) rfl rfl Try.func30 (by kernel_rfl) rfl #[.agg #[.int .i64 a0_0, .int .i64 a0_1, .int .i64 a0_2, .int .i64 a0_3], .agg #[.int .i64 ji49, .int .i64 0, .slice Ao147 x307002_2.length co147, .slice none 0 0], .int .i64 ji49] rfl (by (try simp only [List.map_toArray, List.map_cons, List.map_nil]); first | done | (simp only [hji49]; rfl) | rfl | (simp only [List.length_drop, List.length_take]; rfl)) ?_; (refine (sandglassref12_counts.calls k2 a0_0 a0_1 a0_2 a0_3 ji49 0 _ _ x307002_2 _ _ ([] : List (S54)) ji49 t310 _ ?side1 ?side2 ?side3 ?side4 A90.out).mono ?_); (case side1 => repeat (first | exact (Kd.R_reads' HO_307002.out).2.2 | (with_reducible refine Kd.C_alloc ?_ _) | (with_reducible refine Kd.C_drewN ?_ _) | (with_reducible refine Kd.C_drew ?_))); (case side2 => exact (Kd.R_reads' HO_307002.out).2.1); (case side3 => exact Kd.C_nil _ _); (case side4 => exact Nat.le_refl _); rintro e w148 ⟨rfl, hb⟩; refine ⟨_, rfl, ?_⟩; replace HO_297002 := vb HO_297002 hb; replace HO_297003 := vb HO_297003 hb; replace HO_307002 := Aside0.mk (Kd.R_below (by (with_reducible repeat (first | apply Kd.R_alloc | apply Kd.R_drewN | apply Kd.R_drew)); exact HO_307002.out) hb); replace BK295 := Aside0.mk (blk_below (bo BK295) hb); replace BK296 := Aside0.mk (blk_below (bo BK296) hb); replace BK297 := Aside0.mk (blk_below (bo BK297) hb); replace BK298 := Aside0.mk (blk_below (bo BK298) hb); replace BK306 := Aside0.mk (blk_below (bo BK306) hb); replace HB := Aside0.mk (below_step (bl HB) hb); (try clear hb); (try clear hb2); (try clear hk); (try clear hi); obtain ⟨hcz149_0, hcz149_1, hcz149_2, hcz149_3⟩ := ce4 BK295; obtain ⟨hfz149_0, hfz149_1, hfz149_2, hfz149_3⟩ := fr4 BK295) | ((with_reducible refine gate_dst (N := 14) rfl ?_); refine box_event ?hg (N := 14) ?hd (cs := #[.bool false, .int .i64 0, .int .i64 0, .int .i64 0]) (t := 32) ?hr ?_; (case hd => rfl); (case hg => rfl); (case hr => first | (go_simp; done) | (go_simp; rfl)); intro gb311 hg w150 hbox hb; have BK311 := Aside0.mk (hbox); have GW311 := Aside0.mk ((by rw [hg]; exact (below_size (bl HB)) : w.heap.size ≤ gb311)); have GE311 := Aside0.mk ((by rw [hg]; exact (below_size (bl HB)) : w.heap.size ≤ gb311)); have NB295_311 := nb BK295 hg; have NB311_295 := bn BK295 hg; have NB296_311 := nb BK296 hg; have NB311_296 := bn BK296 hg; have NB297_311 := nb BK297 hg; have NB311_297 := bn BK297 hg; have NB298_311 := nb BK298 hg; have NB311_298 := bn BK298 hg; have NB306_311 := nb BK306 hg; have NB311_306 := bn BK306 hg; replace HO_297002 := ve HO_297002 hg hb; replace HO_297003 := ve HO_297003 hg hb; replace HO_307002 := Aside0.mk (Kd.R_below (by (with_reducible repeat (first | apply Kd.R_alloc | apply Kd.R_drewN | apply Kd.R_drew)); exact HO_307002.out) hb); replace BK295 := Aside0.mk (blk_below (bo BK295) hb); replace BK296 := Aside0.mk (blk_below (bo BK296) hb); replace BK297 := Aside0.mk (blk_below (bo BK297) hb); replace BK298 := Aside0.mk (blk_below (bo BK298) hb); replace BK306 := Aside0.mk (blk_below (bo BK306) hb); replace HB := Aside0.mk (below_step (bl HB) hb); clear hb hbox hg; have hnb151 := NB311_295.out; have hnc151 := NB295_311.out; have hnb152 := NB311_296.out; have hnc152 := NB296_311.out; have hnb153 := NB311_297.out; have hnc153 := NB297_311.out; have hnb154 := NB311_298.out; have hnc154 := NB298_311.out; have hnb155 := NB311_306.out; have hnc155 := NB306_311.out; obtain ⟨hcz156_0, hcz156_1, hcz156_2, hcz156_3⟩ := ce4 BK311; obtain ⟨hfz156_0, hfz156_1, hfz156_2, hfz156_3⟩ := fr4 BK311; obtain ⟨hcz157_0, hcz157_1, hcz157_2, hcz157_3⟩ := ce4 BK295; obtain ⟨hfz157_0, hfz157_1, hfz157_2, hfz157_3⟩ := fr4 BK295; obtain ⟨hcz158_0, hcz158_1, hcz158_2, hcz158_3⟩ := ce4 BK306; obtain ⟨hfz158_0, hfz158_1, hfz158_2, hfz158_3⟩ := fr4 BK306) | ((with_reducible refine gate_callee (f := 31) rfl ?_); refine goesL_ (some 129) rfl rfl Try.func31 (by kernel_rfl) rfl #[.agg #[.int .i64 a0_0, .int .i64 a0_1, .int .i64 a0_2, .int .i64 a0_3], .agg #[.int .i64 ji49, .int .i64 0, .slice Ao147 x307002_2.length co147, .slice none 0 0], .int .i64 ji49, .int .i64 0] rfl (by (try simp only [List.map_toArray, List.map_cons, List.map_nil]); first | done | (simp only [hji49]; rfl) | rfl | (simp only [List.length_drop, List.length_take]; rfl)) ?_; (refine (sandglassref12_wait.calls k2 a0_0 a0_1 a0_2 a0_3 ji49 0 _ _ x307002_2 _ _ ([] : List (S54)) ji49 0 t315 _ ?side1 ?side2 ?side3 ?side4 A137.out).mono ?_); (case side1 => refine (Kd.R_reads' (e := 3) (base := w.heap.size) (ok := fun k_ => (w.heap.size ≤ k_)) (n := x307002_2.length) (c := co147) ?_).2.2; exact (by (with_reducible repeat (first | apply Kd.R_alloc | apply Kd.R_drewN | apply Kd.R_drew)); exact (Kd.R_mono (Kd.R_far (p := ⟨gb311, 1, none⟩) (Kd.R_far (p := ⟨gb311, 2, none⟩) (Kd.R_far (p := ⟨gb311, 3, none⟩) (Kd.R_far (p := ⟨gb311, 2, none⟩) (Kd.R_far (p := ⟨gb311, 1, none⟩) (Kd.R_far (p := ⟨gb311, 0, none⟩) (Kd.R_types HO_307002.out BK311.out (by decide)) (fun _ hk => hk.2) (.bool false)) (fun _ hk => hk.2) (.int .i64 0)) (fun _ hk => hk.2) (.int .i64 0)) (fun _ hk => hk.2) (.int .i64 0)) (fun _ hk => hk.2) (.int .i64 2199023255552)) (fun _ hk => hk.2) (.int .i64 (wrap64 (a0_1 - t310)))) (fun _ h_ => h_.1)))); (case side2 => exact (Kd.R_reads' HO_307002.out).2.1); (case side3 => exact Kd.C_nil _ _); (case side4 => exact Nat.le_refl _); rintro e w159 ⟨rfl, hb⟩; refine ⟨_, rfl, ?_⟩; replace HO_297002 := Aside0.mk (Kd.V_below (by (with_reducible repeat (first | apply Kd.V_alloc | apply Kd.V_drewN | apply Kd.V_drew)); exact (Kd.V_mono (Kd.V_far (p := ⟨gb311, 1, none⟩) (Kd.V_far (p := ⟨gb311, 2, none⟩) (Kd.V_far (p := ⟨gb311, 3, none⟩) (Kd.V_far (p := ⟨gb311, 2, none⟩) (Kd.V_far (p := ⟨gb311, 1, none⟩) (Kd.V_far (p := ⟨gb311, 0, none⟩) (Kd.V_mono HO_297002.out (fun k_ hk => (⟨hk, hk.2⟩ : _ ∧ k_ ≠ gb311))) (fun _ hk => hk.2) (.bool false)) (fun _ hk => hk.2) (.int .i64 0)) (fun _ hk => hk.2) (.int .i64 0)) (fun _ hk => hk.2) (.int .i64 0)) (fun _ hk => hk.2) (.int .i64 2199023255552)) (fun _ hk => hk.2) (.int .i64 (wrap64 (a0_1 - t310)))) (fun _ h_ => h_.1))) hb); replace HO_297003 := Aside0.mk (Kd.V_below (by (with_reducible repeat (first | apply Kd.V_alloc | apply Kd.V_drewN | apply Kd.V_drew)); exact (Kd.V_mono (Kd.V_far (p := ⟨gb311, 1, none⟩) (Kd.V_far (p := ⟨gb311, 2, none⟩) (Kd.V_far (p := ⟨gb311, 3, none⟩) (Kd.V_far (p := ⟨gb311, 2, none⟩) (Kd.V_far (p := ⟨gb311, 1, none⟩) (Kd.V_far (p := ⟨gb311, 0, none⟩) (Kd.V_mono HO_297003.out (fun k_ hk => (⟨hk, hk.2⟩ : _ ∧ k_ ≠ gb311))) (fun _ hk => hk.2) (.bool false)) (fun _ hk => hk.2) (.int .i64 0)) (fun _ hk => hk.2) (.int .i64 0)) (fun _ hk => hk.2) (.int .i64 0)) (fun _ hk => hk.2) (.int .i64 2199023255552)) (fun _ hk => hk.2) (.int .i64 (wrap64 (a0_1 - t310)))) (fun _ h_ => h_.1))) hb); replace HO_307002 := Aside0.mk (Kd.R_below (by (with_reducible repeat (first | apply Kd.R_alloc | apply Kd.R_drewN | apply Kd.R_drew)); exact (Kd.R_mono (Kd.R_far (p := ⟨gb311, 1, none⟩) (Kd.R_far (p := ⟨gb311, 2, none⟩) (Kd.R_far (p := ⟨gb311, 3, none⟩) (Kd.R_far (p := ⟨gb311, 2, none⟩) (Kd.R_far (p := ⟨gb311, 1, none⟩) (Kd.R_far (p := ⟨gb311, 0, none⟩) (Kd.R_types HO_307002.out BK311.out (by decide)) (fun _ hk => hk.2) (.bool false)) (fun _ hk => hk.2) (.int .i64 0)) (fun _ hk => hk.2) (.int .i64 0)) (fun _ hk => hk.2) (.int .i64 0)) (fun _ hk => hk.2) (.int .i64 2199023255552)) (fun _ hk => hk.2) (.int .i64 (wrap64 (a0_1 - t310)))) (fun _ h_ => h_.1))) hb); replace BK295 := Aside0.mk (blk_below (g := gb295) (o := .cells #[.int .i64 a0_0, .int .i64 a0_1, .int .i64 a0_2, .int .i64 a0_3] 23 (0, 0)) (by (with_reducible repeat (first | refine blk_drewN ?_ _ | refine blk_drew ?_ | refine blk_alloc ?_ _)); refine blk_far ?_ NB295_311.out _; (with_reducible repeat (first | refine blk_drewN ?_ _ | refine blk_drew ?_ | refine blk_alloc ?_ _)); refine blk_far ?_ NB295_311.out _; (with_reducible repeat (first | refine blk_drewN ?_ _ | refine blk_drew ?_ | refine blk_alloc ?_ _)); refine blk_far ?_ NB295_311.out _; (with_reducible repeat (first | refine blk_drewN ?_ _ | refine blk_drew ?_ | refine blk_alloc ?_ _)); refine blk_far ?_ NB295_311.out _; (with_reducible repeat (first | refine blk_drewN ?_ _ | refine blk_drew ?_ | refine blk_alloc ?_ _)); refine blk_far ?_ NB295_311.out _; (with_reducible repeat (first | refine blk_drewN ?_ _ | refine blk_drew ?_ | refine blk_alloc ?_ _)); refine blk_far ?_ NB295_311.out _; (with_reducible repeat (first | refine blk_drewN ?_ _ | refine blk_drew ?_ | refine blk_alloc ?_ _)); exact BK295.out) hb); replace BK296 := Aside0.mk (blk_below (g := gb296) (o := .cells #[.int .i64 a1_0, .int .i64 a1_1, u297002, .slice A1_3 l1_3.length c1_3] 27 (0, 0)) (by (with_reducible repeat (first | refine blk_drewN ?_ _ | refine blk_drew ?_ | refine blk_alloc ?_ _)); refine blk_far ?_ NB296_311.out _; (with_reducible repeat (first | refine blk_drewN ?_ _ | refine blk_drew ?_ | refine blk_alloc ?_ _)); refine blk_far ?_ NB296_311.out _; (with_reducible repeat (first | refine blk_drewN ?_ _ | refine blk_drew ?_ | refine blk_alloc ?_ _)); refine blk_far ?_ NB296_311.out _; (with_reducible repeat (first | refine blk_drewN ?_ _ | refine blk_drew ?_ | refine blk_alloc ?_ _)); refine blk_far ?_ NB296_311.out _; (with_reducible repeat (first | refine blk_drewN ?_ _ | refine blk_drew ?_ | refine blk_alloc ?_ _)); refine blk_far ?_ NB296_311.out _; (with_reducible repeat (first | refine blk_drewN ?_ _ | refine blk_drew ?_ | refine blk_alloc ?_ _)); refine blk_far ?_ NB296_311.out _; (with_reducible repeat (first | refine blk_drewN ?_ _ | refine blk_drew ?_ | refine blk_alloc ?_ _)); exact BK296.out) hb); replace BK297 := Aside0.mk (blk_below (g := gb297) (o := .cells #[.int .i64 0, .int .i64 0, .slice none 0 0, .slice none 0 0] 27 (0, 0)) (by (with_reducible repeat (first | refine blk_drewN ?_ _ | refine blk_drew ?_ | refine blk_alloc ?_ _)); refine blk_far ?_ NB297_311.out _; (with_reducible repeat (first | refine blk_drewN ?_ _ | refine blk_drew ?_ | refine blk_alloc ?_ _)); refine blk_far ?_ NB297_311.out _; (with_reducible repeat (first | refine blk_drewN ?_ _ | refine blk_drew ?_ | refine blk_alloc ?_ _)); refine blk_far ?_ NB297_311.out _; (with_reducible repeat (first | refine blk_drewN ?_ _ | refine blk_drew ?_ | refine blk_alloc ?_ _)); refine blk_far ?_ NB297_311.out _; (with_reducible repeat (first | refine blk_drewN ?_ _ | refine blk_drew ?_ | refine blk_alloc ?_ _)); refine blk_far ?_ NB297_311.out _; (with_reducible repeat (first | refine blk_drewN ?_ _ | refine blk_drew ?_ | refine blk_alloc ?_ _)); refine blk_far ?_ NB297_311.out _; (with_reducible repeat (first | refine blk_drewN ?_ _ | refine blk_drew ?_ | refine blk_alloc ?_ _)); exact BK297.out) hb); replace BK298 := Aside0.mk (blk_below (g := gb298) (o := .cells #[.bool false, .int .i64 0, .int .i64 0, .int .i64 0] 32 (0, 0)) (by (with_reducible repeat (first | refine blk_drewN ?_ _ | refine blk_drew ?_ | refine blk_alloc ?_ _)); refine blk_far ?_ NB298_311.out _; (with_reducible repeat (first | refine blk_drewN ?_ _ | refine blk_drew ?_ | refine blk_alloc ?_ _)); refine blk_far ?_ NB298_311.out _; (with_reducible repeat (first | refine blk_drewN ?_ _ | refine blk_drew ?_ | refine blk_alloc ?_ _)); refine blk_far ?_ NB298_311.out _; (with_reducible repeat (first | refine blk_drewN ?_ _ | refine blk_drew ?_ | refine blk_alloc ?_ _)); refine blk_far ?_ NB298_311.out _; (with_reducible repeat (first | refine blk_drewN ?_ _ | refine blk_drew ?_ | refine blk_alloc ?_ _)); refine blk_far ?_ NB298_311.out _; (with_reducible repeat (first | refine blk_drewN ?_ _ | refine blk_drew ?_ | refine blk_alloc ?_ _)); refine blk_far ?_ NB298_311.out _; (with_reducible repeat (first | refine blk_drewN ?_ _ | refine blk_drew ?_ | refine blk_alloc ?_ _)); exact BK298.out) hb); replace BK306 := Aside0.mk (blk_below (g := gb306) (o := .cells #[.int .i64 ji49, .int .i64 0, .slice Ao147 x307002_2.length co147, .slice none 0 0] 27 (0, 0)) (by (with_reducible repeat (first | refine blk_drewN ?_ _ | refine blk_drew ?_ | refine blk_alloc ?_ _)); refine blk_far ?_ NB306_311.out _; (with_reducible repeat (first | refine blk_drewN ?_ _ | refine blk_drew ?_ | refine blk_alloc ?_ _)); refine blk_far ?_ NB306_311.out _; (with_reducible repeat (first | refine blk_drewN ?_ _ | refine blk_drew ?_ | refine blk_alloc ?_ _)); refine blk_far ?_ NB306_311.out _; (with_reducible repeat (first | refine blk_drewN ?_ _ | refine blk_drew ?_ | refine blk_alloc ?_ _)); refine blk_far ?_ NB306_311.out _; (with_reducible repeat (first | refine blk_drewN ?_ _ | refine blk_drew ?_ | refine blk_alloc ?_ _)); refine blk_far ?_ NB306_311.out _; (with_reducible repeat (first | refine blk_drewN ?_ _ | refine blk_drew ?_ | refine blk_alloc ?_ _)); refine blk_far ?_ NB306_311.out _; (with_reducible repeat (first | refine blk_drewN ?_ _ | refine blk_drew ?_ | refine blk_alloc ?_ _)); exact BK306.out) hb); replace BK311 := Aside0.mk (blk_below (g := gb311) (o := .cells #[.bool false, .int .i64 (wrap64 (a0_1 - t310)), .int .i64 2199023255552, .int .i64 0] 32 (0, 0)) (by (with_reducible repeat (first | refine blk_drewN ?_ _ | refine blk_drew ?_ | refine blk_alloc ?_ _)); refine blk_put (cs := #[.bool false, .int .i64 0, .int .i64 2199023255552, .int .i64 0]) ?_ 1 _ rfl; (with_reducible repeat (first | refine blk_drewN ?_ _ | refine blk_drew ?_ | refine blk_alloc ?_ _)); refine blk_put (cs := #[.bool false, .int .i64 0, .int .i64 0, .int .i64 0]) ?_ 2 _ rfl; (with_reducible repeat (first | refine blk_drewN ?_ _ | refine blk_drew ?_ | refine blk_alloc ?_ _)); refine blk_put (cs := #[.bool false, .int .i64 0, .int .i64 0, .int .i64 0]) ?_ 3 _ rfl; (with_reducible repeat (first | refine blk_drewN ?_ _ | refine blk_drew ?_ | refine blk_alloc ?_ _)); refine blk_put (cs := #[.bool false, .int .i64 0, .int .i64 0, .int .i64 0]) ?_ 2 _ rfl; (with_reducible repeat (first | refine blk_drewN ?_ _ | refine blk_drew ?_ | refine blk_alloc ?_ _)); refine blk_put (cs := #[.bool false, .int .i64 0, .int .i64 0, .int .i64 0]) ?_ 1 _ rfl; (with_reducible repeat (first | refine blk_drewN ?_ _ | refine blk_drew ?_ | refine blk_alloc ?_ _)); refine blk_put (cs := #[.bool false, .int .i64 0, .int .i64 0, .int .i64 0]) ?_ 0 _ rfl; (with_reducible repeat (first | refine blk_drewN ?_ _ | refine blk_drew ?_ | refine blk_alloc ?_ _)); exact BK311.out) hb); replace HB := Aside0.mk (below_step (bl HB) hb); (try clear hb); (try clear hb2); (try clear hk); (try clear hi); obtain ⟨hcz160_0, hcz160_1, hcz160_2, hcz160_3⟩ := ce4 BK311; obtain ⟨hfz160_0, hfz160_1, hfz160_2, hfz160_3⟩ := fr4 BK311))
           have n0_ : Aside0 (Kd.V (Kd.int .i64) 3 (w159.setCell ⟨gb311, 3, none⟩ (.int .i64 t315)) w.heap.size (fun k_ => ((P1_2_ k_ ∨ P1_3_ k_) ∨ w.heap.size ≤ k_) ∧ some k_ ≠ (.slice Ao147 x307002_2.length co147 : Value).ownBlock ∧ k_ ≠ gb295 ∧ k_ ≠ gb296 ∧ k_ ≠ gb297 ∧ k_ ≠ gb298 ∧ k_ ≠ gb306 ∧ k_ ≠ gb311) u297002 x297002_2) := ⟨by (with_reducible repeat (first | apply Kd.V_alloc | apply Kd.V_drewN | apply Kd.V_drew)); exact Kd.V_mono (Kd.V_far (p := ⟨gb311, 3, none⟩) (Kd.V_mono HO_297002.out (fun k_ hk => (⟨hk, hk.2⟩ : _ ∧ k_ ≠ gb311))) (fun _ hk => hk.2) (.int .i64 t315)) (fun _ hk => ⟨hk.1.1.1, ⟨hk.1.1.2.1, ⟨hk.1.1.2.2.1, ⟨hk.1.1.2.2.2.1, ⟨hk.1.1.2.2.2.2.1, ⟨hk.1.1.2.2.2.2.2.1, ⟨hk.1.1.2.2.2.2.2.2, hk.1.2⟩⟩⟩⟩⟩⟩⟩)⟩
           have n1_ : Aside0 (Kd.V k54 54 (w159.setCell ⟨gb311, 3, none⟩ (.int .i64 t315)) w.heap.size (fun k_ => ((P1_2_ k_ ∨ P1_3_ k_) ∨ w.heap.size ≤ k_) ∧ some k_ ≠ (.slice Ao147 x307002_2.length co147 : Value).ownBlock ∧ k_ ≠ gb295 ∧ k_ ≠ gb296 ∧ k_ ≠ gb297 ∧ k_ ≠ gb298 ∧ k_ ≠ gb306 ∧ k_ ≠ gb311) (.slice A1_3 l1_3.length c1_3) l1_3) := ⟨by (with_reducible repeat (first | apply Kd.V_alloc | apply Kd.V_drewN | apply Kd.V_drew)); exact Kd.V_mono (Kd.V_far (p := ⟨gb311, 3, none⟩) (Kd.V_mono HO_297003.out (fun k_ hk => (⟨hk, hk.2⟩ : _ ∧ k_ ≠ gb311))) (fun _ hk => hk.2) (.int .i64 t315)) (fun _ hk => ⟨hk.1.1.1, ⟨hk.1.1.2.1, ⟨hk.1.1.2.2.1, ⟨hk.1.1.2.2.2.1, ⟨hk.1.1.2.2.2.2.1, ⟨hk.1.1.2.2.2.2.2.1, ⟨hk.1.1.2.2.2.2.2.2, hk.1.2⟩⟩⟩⟩⟩⟩⟩)⟩
           have n2_ : Aside0 (Kd.R (Kd.int .i64) 3 (w159.setCell ⟨gb311, 3, none⟩ (.int .i64 t315)) w.heap.size (fun k_ => (w.heap.size ≤ k_)) (.slice Ao147 x307002_2.length co147) x307002_2) := ⟨by (with_reducible repeat (first | apply Kd.R_alloc | apply Kd.R_drewN | apply Kd.R_drew)); exact Kd.R_mono (Kd.R_far (p := ⟨gb311, 3, none⟩) (Kd.R_types HO_307002.out BK311.out (by decide)) (fun _ hk => hk.2) (.int .i64 t315)) (fun _ hk => hk.1)⟩
           have n3_ : Aside0 ((w159.setCell ⟨gb311, 3, none⟩ (.int .i64 t315)).heap[gb295]? = some (.cells #[.int .i64 a0_0, .int .i64 a0_1, .int .i64 a0_2, .int .i64 a0_3] 23 (0, 0))) := ⟨by (with_reducible repeat (first | refine blk_drewN ?_ _ | refine blk_drew ?_ | refine blk_alloc ?_ _)); refine blk_far ?_ NB295_311.out _; (with_reducible repeat (first | refine blk_drewN ?_ _ | refine blk_drew ?_ | refine blk_alloc ?_ _)); exact BK295.out⟩
           have n4_ : Aside0 ((w159.setCell ⟨gb311, 3, none⟩ (.int .i64 t315)).heap[gb296]? = some (.cells #[.int .i64 a1_0, .int .i64 a1_1, u297002, .slice A1_3 l1_3.length c1_3] 27 (0, 0))) := ⟨by (with_reducible repeat (first | refine blk_drewN ?_ _ | refine blk_drew ?_ | refine blk_alloc ?_ _)); refine blk_far ?_ NB296_311.out _; (with_reducible repeat (first | refine blk_drewN ?_ _ | refine blk_drew ?_ | refine blk_alloc ?_ _)); exact BK296.out⟩
           have n5_ : Aside0 ((w159.setCell ⟨gb311, 3, none⟩ (.int .i64 t315)).heap[gb297]? = some (.cells #[.int .i64 0, .int .i64 0, .slice none 0 0, .slice none 0 0] 27 (0, 0))) := ⟨by (with_reducible repeat (first | refine blk_drewN ?_ _ | refine blk_drew ?_ | refine blk_alloc ?_ _)); refine blk_far ?_ NB297_311.out _; (with_reducible repeat (first | refine blk_drewN ?_ _ | refine blk_drew ?_ | refine blk_alloc ?_ _)); exact BK297.out⟩
           have n6_ : Aside0 ((w159.setCell ⟨gb311, 3, none⟩ (.int .i64 t315)).heap[gb298]? = some (.cells #[.bool false, .int .i64 0, .int .i64 0, .int .i64 0] 32 (0, 0))) := ⟨by (with_reducible repeat (first | refine blk_drewN ?_ _ | refine blk_drew ?_ | refine blk_alloc ?_ _)); refine blk_far ?_ NB298_311.out _; (with_reducible repeat (first | refine blk_drewN ?_ _ | refine blk_drew ?_ | refine blk_alloc ?_ _)); exact BK298.out⟩
           have n7_ : Aside0 ((w159.setCell ⟨gb311, 3, none⟩ (.int .i64 t315)).heap[gb306]? = some (.cells #[.int .i64 ji49, .int .i64 0, .slice Ao147 x307002_2.length co147, .slice none 0 0] 27 (0, 0))) := ⟨by (with_reducible repeat (first | refine blk_drewN ?_ _ | refine blk_drew ?_ | refine blk_alloc ?_ _)); refine blk_far ?_ NB306_311.out _; (with_reducible repeat (first | refine blk_drewN ?_ _ | refine blk_drew ?_ | refine blk_alloc ?_ _)); exact BK306.out⟩
           have n8_ : Aside0 ((w159.setCell ⟨gb311, 3, none⟩ (.int .i64 t315)).heap[gb311]? = some (.cells #[.bool false, .int .i64 (wrap64 (a0_1 - t310)), .int .i64 2199023255552, .int .i64 t315] 32 (0, 0))) := ⟨by (with_reducible repeat (first | refine blk_drewN ?_ _ | refine blk_drew ?_ | refine blk_alloc ?_ _)); refine blk_put (cs := #[.bool false, .int .i64 (wrap64 (a0_1 - t310)), .int .i64 2199023255552, .int .i64 0]) ?_ 3 _ rfl; (with_reducible repeat (first | refine blk_drewN ?_ _ | refine blk_drew ?_ | refine blk_alloc ?_ _)); exact BK311.out⟩
           have n9_ : Aside0 (Below w.heap.size w (w159.setCell ⟨gb311, 3, none⟩ (.int .i64 t315))) := ⟨bl HB⟩
           (try clear HO_297002)
           (try clear HO_297003)
           (try clear HO_307002)
           (try clear BK295)
           (try clear BK296)
           (try clear BK297)
           (try clear BK298)
           (try clear BK306)
           (try clear BK311)
           (try clear HB)
           generalize (w159.setCell ⟨gb311, 3, none⟩ (.int .i64 t315)) = w161 at n0_ n1_ n2_ n3_ n4_ n5_ n6_ n7_ n8_ n9_ ⊢
           have HO_297002 := n0_
           have HO_297003 := n1_
           have HO_307002 := n2_
           have BK295 := n3_
           have BK296 := n4_
           have BK297 := n5_
           have BK298 := n6_
           have BK306 := n7_
           have BK311 := n8_
           have HB := n9_
           clear n0_ n1_ n2_ n3_ n4_ n5_ n6_ n7_ n8_ n9_
           replace HO_297002 := Aside0.mk (Kd.V_drew HO_297002.out)
           replace HO_297003 := Aside0.mk (Kd.V_drew HO_297003.out)
           replace HO_307002 := Aside0.mk (Kd.R_drew HO_307002.out)
           replace BK295 := Aside0.mk (blk_drew BK295.out)
           replace BK296 := Aside0.mk (blk_drew BK296.out)
           replace BK297 := Aside0.mk (blk_drew BK297.out)
           replace BK298 := Aside0.mk (blk_drew BK298.out)
           replace BK306 := Aside0.mk (blk_drew BK306.out)
           replace BK311 := Aside0.mk (blk_drew BK311.out)
           replace HB := Aside0.mk (below_drew1 HB.out)
           refine start_ (n := 4) (S := fun w' => w'.cell? ⟨gb306, 0, none⟩ = some (.int .i64 ji49) ∧ w'.cell? ⟨gb306, 1, none⟩ = some (.int .i64 0) ∧ w'.cell? ⟨gb306, 2, none⟩ = some (.slice Ao147 x307002_2.length co147) ∧ w'.cell? ⟨gb306, 3, none⟩ = some (.slice none 0 0) ∧ w'.cell? ⟨gb311, 0, none⟩ = some (.bool false) ∧ w'.cell? ⟨gb311, 1, none⟩ = some (.int .i64 (wrap64 (a0_1 - t310))) ∧ w'.cell? ⟨gb311, 2, none⟩ = some (.int .i64 2199023255552) ∧ w'.cell? ⟨gb311, 3, none⟩ = some (.int .i64 t315)) (ds := []) #[false, false, false, false] (by kernel_rfl) rfl rfl ⟨(blk_cell BK306.out 0).trans rfl, (blk_cell BK306.out 1).trans rfl, (blk_cell BK306.out 2).trans rfl, (blk_cell BK306.out 3).trans rfl, (blk_cell BK311.out 0).trans rfl, (blk_cell BK311.out 1).trans rfl, (blk_cell BK311.out 2).trans rfl, (blk_cell BK311.out 3).trans rfl⟩ (fun hHeld => ?_)
           generalize w161.drew = w162 at HO_297002 HO_297003 HO_307002 BK295 BK296 BK297 BK298 BK306 BK311 HB hHeld ⊢
           refine takeB' 0 131 hHeld ?_
           refine takeB' 1 132 hHeld ?_
           refine one_ (i := 2) (N := none) #[true, true, true, false] rfl rfl (by kernel_rfl) (by decide) (fun K hK => ?_)
           have hs163 : w162.cell? ⟨gb297, 0, none⟩ = some (.int .i64 0) := (blk_cell BK297.out 0).trans rfl
           have hfs163 := blk_frozen BK297.out 0
           have hns163_0 := NB295_297.out
           have hns163_1 := NB296_297.out
           have hns163_3 := NB298_297.out
           have hns163_4 := NB306_297.out
           have hns163_5 := NB311_297.out
           have hms163_0 := NB297_295.out
           have hms163_1 := NB297_296.out
           have hms163_3 := NB297_298.out
           have hms163_4 := NB297_306.out
           have hms163_5 := NB297_311.out
           have hs164 : w162.cell? ⟨gb297, 1, none⟩ = some (.int .i64 0) := (blk_cell BK297.out 1).trans rfl
           have hfs164 := blk_frozen BK297.out 1
           have hns164_0 := NB295_297.out
           have hns164_1 := NB296_297.out
           have hns164_3 := NB298_297.out
           have hns164_4 := NB306_297.out
           have hns164_5 := NB311_297.out
           have hms164_0 := NB297_295.out
           have hms164_1 := NB297_296.out
           have hms164_3 := NB297_298.out
           have hms164_4 := NB297_306.out
           have hms164_5 := NB297_311.out
           have hs165 : w162.cell? ⟨gb297, 2, none⟩ = some (.slice none 0 0) := (blk_cell BK297.out 2).trans rfl
           have hfs165 := blk_frozen BK297.out 2
           have hns165_0 := NB295_297.out
           have hns165_1 := NB296_297.out
           have hns165_3 := NB298_297.out
           have hns165_4 := NB306_297.out
           have hns165_5 := NB311_297.out
           have hms165_0 := NB297_295.out
           have hms165_1 := NB297_296.out
           have hms165_3 := NB297_298.out
           have hms165_4 := NB297_306.out
           have hms165_5 := NB297_311.out
           have hs166 : w162.cell? ⟨gb297, 3, none⟩ = some (.slice none 0 0) := (blk_cell BK297.out 3).trans rfl
           have hfs166 := blk_frozen BK297.out 3
           have hns166_0 := NB295_297.out
           have hns166_1 := NB296_297.out
           have hns166_3 := NB298_297.out
           have hns166_4 := NB306_297.out
           have hns166_5 := NB311_297.out
           have hms166_0 := NB297_295.out
           have hms166_1 := NB297_296.out
           have hms166_3 := NB297_298.out
           have hms166_4 := NB297_306.out
           have hms166_5 := NB297_311.out
           refine skip_ (w1 := ?_) (by rfl) rfl ?_ ?_
           rotate_left
           ·go_simp
            rfl
           refine hK.out _ _ ⟨((cell_far (p := ⟨gb297, _, none⟩) NB306_297.out _).trans (((cell_far (p := ⟨gb297, _, none⟩) NB306_297.out _).trans (((cell_far (p := ⟨gb297, _, none⟩) NB306_297.out _).trans (((cell_far (p := ⟨gb297, _, none⟩) NB306_297.out _).trans (hHeld.1)))))))), ((cell_far (p := ⟨gb297, _, none⟩) NB306_297.out _).trans (((cell_far (p := ⟨gb297, _, none⟩) NB306_297.out _).trans (((cell_far (p := ⟨gb297, _, none⟩) NB306_297.out _).trans (((cell_far (p := ⟨gb297, _, none⟩) NB306_297.out _).trans (hHeld.2.1)))))))), ((cell_far (p := ⟨gb297, _, none⟩) NB306_297.out _).trans (((cell_far (p := ⟨gb297, _, none⟩) NB306_297.out _).trans (((cell_far (p := ⟨gb297, _, none⟩) NB306_297.out _).trans (((cell_far (p := ⟨gb297, _, none⟩) NB306_297.out _).trans (hHeld.2.2.1)))))))), ((cell_far (p := ⟨gb297, _, none⟩) NB306_297.out _).trans (((cell_far (p := ⟨gb297, _, none⟩) NB306_297.out _).trans (((cell_far (p := ⟨gb297, _, none⟩) NB306_297.out _).trans (((cell_far (p := ⟨gb297, _, none⟩) NB306_297.out _).trans (hHeld.2.2.2.1)))))))), ((cell_far (p := ⟨gb297, _, none⟩) NB311_297.out _).trans (((cell_far (p := ⟨gb297, _, none⟩) NB311_297.out _).trans (((cell_far (p := ⟨gb297, _, none⟩) NB311_297.out _).trans (((cell_far (p := ⟨gb297, _, none⟩) NB311_297.out _).trans (hHeld.2.2.2.2.1)))))))), ((cell_far (p := ⟨gb297, _, none⟩) NB311_297.out _).trans (((cell_far (p := ⟨gb297, _, none⟩) NB311_297.out _).trans (((cell_far (p := ⟨gb297, _, none⟩) NB311_297.out _).trans (((cell_far (p := ⟨gb297, _, none⟩) NB311_297.out _).trans (hHeld.2.2.2.2.2.1)))))))), ((cell_far (p := ⟨gb297, _, none⟩) NB311_297.out _).trans (((cell_far (p := ⟨gb297, _, none⟩) NB311_297.out _).trans (((cell_far (p := ⟨gb297, _, none⟩) NB311_297.out _).trans (((cell_far (p := ⟨gb297, _, none⟩) NB311_297.out _).trans (hHeld.2.2.2.2.2.2.1)))))))), ((cell_far (p := ⟨gb297, _, none⟩) NB311_297.out _).trans (((cell_far (p := ⟨gb297, _, none⟩) NB311_297.out _).trans (((cell_far (p := ⟨gb297, _, none⟩) NB311_297.out _).trans (((cell_far (p := ⟨gb297, _, none⟩) NB311_297.out _).trans (hHeld.2.2.2.2.2.2.2))))))))⟩ (fun hHeld => ?_)
           clear hK K
           refine one_ (i := 3) (N := none) #[true, true, true, true] rfl rfl (by kernel_rfl) (by decide) (fun K hK => ?_)
           have hs167 : w162.cell? ⟨gb298, 0, none⟩ = some (.bool false) := (blk_cell BK298.out 0).trans rfl
           have hfs167 := blk_frozen BK298.out 0
           have hns167_0 := NB295_298.out
           have hns167_1 := NB296_298.out
           have hns167_2 := NB297_298.out
           have hns167_4 := NB306_298.out
           have hns167_5 := NB311_298.out
           have hms167_0 := NB298_295.out
           have hms167_1 := NB298_296.out
           have hms167_2 := NB298_297.out
           have hms167_4 := NB298_306.out
           have hms167_5 := NB298_311.out
           have hs168 : w162.cell? ⟨gb298, 1, none⟩ = some (.int .i64 0) := (blk_cell BK298.out 1).trans rfl
           have hfs168 := blk_frozen BK298.out 1
           have hns168_0 := NB295_298.out
           have hns168_1 := NB296_298.out
           have hns168_2 := NB297_298.out
           have hns168_4 := NB306_298.out
           have hns168_5 := NB311_298.out
           have hms168_0 := NB298_295.out
           have hms168_1 := NB298_296.out
           have hms168_2 := NB298_297.out
           have hms168_4 := NB298_306.out
           have hms168_5 := NB298_311.out
           have hs169 : w162.cell? ⟨gb298, 2, none⟩ = some (.int .i64 0) := (blk_cell BK298.out 2).trans rfl
           have hfs169 := blk_frozen BK298.out 2
           have hns169_0 := NB295_298.out
           have hns169_1 := NB296_298.out
           have hns169_2 := NB297_298.out
           have hns169_4 := NB306_298.out
           have hns169_5 := NB311_298.out
           have hms169_0 := NB298_295.out
           have hms169_1 := NB298_296.out
           have hms169_2 := NB298_297.out
           have hms169_4 := NB298_306.out
           have hms169_5 := NB298_311.out
           have hs170 : w162.cell? ⟨gb298, 3, none⟩ = some (.int .i64 0) := (blk_cell BK298.out 3).trans rfl
           have hfs170 := blk_frozen BK298.out 3
           have hns170_0 := NB295_298.out
           have hns170_1 := NB296_298.out
           have hns170_2 := NB297_298.out
           have hns170_4 := NB306_298.out
           have hns170_5 := NB311_298.out
           have hms170_0 := NB298_295.out
           have hms170_1 := NB298_296.out
           have hms170_2 := NB298_297.out
           have hms170_4 := NB298_306.out
           have hms170_5 := NB298_311.out
           refine skip_ (w1 := ?_) (by rfl) rfl ?_ ?_
           rotate_left
           ·go_simp
            rfl
           refine hK.out _ _ ⟨((cell_far (p := ⟨gb298, _, none⟩) NB306_298.out _).trans (((cell_far (p := ⟨gb298, _, none⟩) NB306_298.out _).trans (((cell_far (p := ⟨gb298, _, none⟩) NB306_298.out _).trans (((cell_far (p := ⟨gb298, _, none⟩) NB306_298.out _).trans (hHeld.1)))))))), ((cell_far (p := ⟨gb298, _, none⟩) NB306_298.out _).trans (((cell_far (p := ⟨gb298, _, none⟩) NB306_298.out _).trans (((cell_far (p := ⟨gb298, _, none⟩) NB306_298.out _).trans (((cell_far (p := ⟨gb298, _, none⟩) NB306_298.out _).trans (hHeld.2.1)))))))), ((cell_far (p := ⟨gb298, _, none⟩) NB306_298.out _).trans (((cell_far (p := ⟨gb298, _, none⟩) NB306_298.out _).trans (((cell_far (p := ⟨gb298, _, none⟩) NB306_298.out _).trans (((cell_far (p := ⟨gb298, _, none⟩) NB306_298.out _).trans (hHeld.2.2.1)))))))), ((cell_far (p := ⟨gb298, _, none⟩) NB306_298.out _).trans (((cell_far (p := ⟨gb298, _, none⟩) NB306_298.out _).trans (((cell_far (p := ⟨gb298, _, none⟩) NB306_298.out _).trans (((cell_far (p := ⟨gb298, _, none⟩) NB306_298.out _).trans (hHeld.2.2.2.1)))))))), ((cell_far (p := ⟨gb298, _, none⟩) NB311_298.out _).trans (((cell_far (p := ⟨gb298, _, none⟩) NB311_298.out _).trans (((cell_far (p := ⟨gb298, _, none⟩) NB311_298.out _).trans (((cell_far (p := ⟨gb298, _, none⟩) NB311_298.out _).trans (hHeld.2.2.2.2.1)))))))), ((cell_far (p := ⟨gb298, _, none⟩) NB311_298.out _).trans (((cell_far (p := ⟨gb298, _, none⟩) NB311_298.out _).trans (((cell_far (p := ⟨gb298, _, none⟩) NB311_298.out _).trans (((cell_far (p := ⟨gb298, _, none⟩) NB311_298.out _).trans (hHeld.2.2.2.2.2.1)))))))), ((cell_far (p := ⟨gb298, _, none⟩) NB311_298.out _).trans (((cell_far (p := ⟨gb298, _, none⟩) NB311_298.out _).trans (((cell_far (p := ⟨gb298, _, none⟩) NB311_298.out _).trans (((cell_far (p := ⟨gb298, _, none⟩) NB311_298.out _).trans (hHeld.2.2.2.2.2.2.1)))))))), ((cell_far (p := ⟨gb298, _, none⟩) NB311_298.out _).trans (((cell_far (p := ⟨gb298, _, none⟩) NB311_298.out _).trans (((cell_far (p := ⟨gb298, _, none⟩) NB311_298.out _).trans (((cell_far (p := ⟨gb298, _, none⟩) NB311_298.out _).trans (hHeld.2.2.2.2.2.2.2))))))))⟩ (fun hHeld => ?_)
           clear hK K
           refine done_ (by kernel_rfl) ?_
           try go_wp2
           refine bodyPost_ret (results_cc rfl _ _ gb297 gb298 27 32 #[.int .i64 ji49, .int .i64 0, .slice Ao147 x307002_2.length co147, .slice none 0 0] #[.bool false, .int .i64 (wrap64 (a0_1 - t310)), .int .i64 2199023255552, .int .i64 t315] (0, 0) (0, 0) _ _ rfl (by (with_reducible repeat (first | refine blk_drewN ?_ _ | refine blk_drew ?_ | refine blk_alloc ?_ _)); refine blk_far ?_ NB297_298.out _; (with_reducible repeat (first | refine blk_drewN ?_ _ | refine blk_drew ?_ | refine blk_alloc ?_ _)); refine blk_far ?_ NB297_298.out _; (with_reducible repeat (first | refine blk_drewN ?_ _ | refine blk_drew ?_ | refine blk_alloc ?_ _)); refine blk_far ?_ NB297_298.out _; (with_reducible repeat (first | refine blk_drewN ?_ _ | refine blk_drew ?_ | refine blk_alloc ?_ _)); refine blk_far ?_ NB297_298.out _; (with_reducible repeat (first | refine blk_drewN ?_ _ | refine blk_drew ?_ | refine blk_alloc ?_ _)); refine blk_put (cs := #[.int .i64 ji49, .int .i64 0, .slice Ao147 x307002_2.length co147, .slice none 0 0]) ?_ 3 _ rfl; (with_reducible repeat (first | refine blk_drewN ?_ _ | refine blk_drew ?_ | refine blk_alloc ?_ _)); refine blk_put (cs := #[.int .i64 ji49, .int .i64 0, .slice none 0 0, .slice none 0 0]) ?_ 2 _ rfl; (with_reducible repeat (first | refine blk_drewN ?_ _ | refine blk_drew ?_ | refine blk_alloc ?_ _)); refine blk_put (cs := #[.int .i64 ji49, .int .i64 0, .slice none 0 0, .slice none 0 0]) ?_ 1 _ rfl; (with_reducible repeat (first | refine blk_drewN ?_ _ | refine blk_drew ?_ | refine blk_alloc ?_ _)); refine blk_put (cs := #[.int .i64 0, .int .i64 0, .slice none 0 0, .slice none 0 0]) ?_ 0 _ rfl; (with_reducible repeat (first | refine blk_drewN ?_ _ | refine blk_drew ?_ | refine blk_alloc ?_ _)); exact BK297.out) Try.underlying27 rfl (by kernel_rfl) rfl (by (with_reducible repeat (first | refine blk_drewN ?_ _ | refine blk_drew ?_ | refine blk_alloc ?_ _)); refine blk_put (cs := #[.bool false, .int .i64 (wrap64 (a0_1 - t310)), .int .i64 2199023255552, .int .i64 0]) ?_ 3 _ rfl; (with_reducible repeat (first | refine blk_drewN ?_ _ | refine blk_drew ?_ | refine blk_alloc ?_ _)); refine blk_put (cs := #[.bool false, .int .i64 (wrap64 (a0_1 - t310)), .int .i64 0, .int .i64 0]) ?_ 2 _ rfl; (with_reducible repeat (first | refine blk_drewN ?_ _ | refine blk_drew ?_ | refine blk_alloc ?_ _)); refine blk_put (cs := #[.bool false, .int .i64 0, .int .i64 0, .int .i64 0]) ?_ 1 _ rfl; (with_reducible repeat (first | refine blk_drewN ?_ _ | refine blk_drew ?_ | refine blk_alloc ?_ _)); refine blk_put (cs := #[.bool false, .int .i64 0, .int .i64 0, .int .i64 0]) ?_ 0 _ rfl; (with_reducible repeat (first | refine blk_drewN ?_ _ | refine blk_drew ?_ | refine blk_alloc ?_ _)); refine blk_far ?_ NB298_297.out _; (with_reducible repeat (first | refine blk_drewN ?_ _ | refine blk_drew ?_ | refine blk_alloc ?_ _)); refine blk_far ?_ NB298_297.out _; (with_reducible repeat (first | refine blk_drewN ?_ _ | refine blk_drew ?_ | refine blk_alloc ?_ _)); refine blk_far ?_ NB298_297.out _; (with_reducible repeat (first | refine blk_drewN ?_ _ | refine blk_drew ?_ | refine blk_alloc ?_ _)); refine blk_far ?_ NB298_297.out _; (with_reducible repeat (first | refine blk_drewN ?_ _ | refine blk_drew ?_ | refine blk_alloc ?_ _)); exact BK298.out) Try.underlying32 rfl (by kernel_rfl)) rfl ?_
           exact ⟨_, _, by first | (with_reducible rfl) | (simp only [← hji49, ← hji53]; with_reducible rfl) | (simp only [← hji49, ← hji53]; done) | rfl | (simp [errW_none, errW_some] <;> rfl) | (simp only [← hji49, ← hji53]; first | rfl | (simp [errW_none, errW_some] <;> rfl)) | (simp [*, errW_none, errW_some] <;> rfl), Kd.V_mono (Kd.R_V (by (with_reducible repeat (first | apply Kd.R_alloc | apply Kd.R_drewN | apply Kd.R_drew)); exact Kd.R_mono (Kd.R_far (p := ⟨gb298, 3, none⟩) (Kd.R_far (p := ⟨gb298, 2, none⟩) (Kd.R_far (p := ⟨gb298, 1, none⟩) (Kd.R_far (p := ⟨gb298, 0, none⟩) (Kd.R_far (p := ⟨gb297, 3, none⟩) (Kd.R_far (p := ⟨gb297, 2, none⟩) (Kd.R_far (p := ⟨gb297, 1, none⟩) (Kd.R_far (p := ⟨gb297, 0, none⟩) (Kd.R_types (Kd.R_types HO_307002.out BK297.out (by decide)) BK298.out (by decide)) (fun _ hk => hk.1.2) (.int .i64 ji49)) (fun _ hk => hk.1.2) (.int .i64 0)) (fun _ hk => hk.1.2) (.slice Ao147 x307002_2.length co147)) (fun _ hk => hk.1.2) (.slice none 0 0)) (fun _ hk => hk.2) (.bool false)) (fun _ hk => hk.2) (.int .i64 (wrap64 (a0_1 - t310)))) (fun _ hk => hk.2) (.int .i64 2199023255552)) (fun _ hk => hk.2) (.int .i64 t315)) (fun _ hk => hk.1.1))) (fun k_ hk => by first | exact ⟨(.inr (hk.1)), hk.2⟩ | exact (.inr (hk))), Kd.V_nil _ _ _ _ _, bl HB⟩
          ·rw [if_neg c136] at H
           have c136b0 : decide (a0_1 < a3) = false := decide_eq_false c136
           clear c136
           replace H := Option.bind_eq_some_iff.mp H
           obtain ⟨t316, A1710, H⟩ := H
           have A171 := Aside0.mk A1710
           clear A1710
           replace H := Option.bind_eq_some_iff.mp H
           obtain ⟨t317, A1720, H⟩ := H
           have A172 := Aside0.mk A1720
           clear A1720
           simp only [Option.some.injEq, Prod.mk.injEq] at H
           obtain ⟨rfl, rfl, rfl, rfl, rfl, rfl, rfl, rfl⟩ := H
           have hnb173 := NB295_296.out
           have hnc173 := NB296_295.out
           have hnb174 := NB295_297.out
           have hnc174 := NB297_295.out
           have hnb175 := NB295_298.out
           have hnc175 := NB298_295.out
           have hnb176 := NB295_306.out
           have hnc176 := NB306_295.out
           obtain ⟨hcz177_0, hcz177_1, hcz177_2, hcz177_3⟩ := ce4 BK295
           obtain ⟨hfz177_0, hfz177_1, hfz177_2, hfz177_3⟩ := fr4 BK295
           have hnb178 := NB306_296.out
           have hnc178 := NB296_306.out
           have hnb179 := NB306_297.out
           have hnc179 := NB297_306.out
           have hnb180 := NB306_298.out
           have hnc180 := NB298_306.out
           obtain ⟨hcz181_0, hcz181_1, hcz181_2, hcz181_3⟩ := ce4 BK306
           obtain ⟨hfz181_0, hfz181_1, hfz181_2, hfz181_3⟩ := fr4 BK306
           obtain ⟨Ao182, co182, eo182⟩ := Kd.R_slice HO_307002.out
           subst eo182
           try go_wp2_with (first | ((with_reducible refine gate_callee (f := 30) rfl ?_); refine goesL_ (some 77) rfl rfl Try.func30 (by kernel_rfl) rfl #[.agg #[.int .i64 a0_0, .int .i64 a0_1, .int .i64 a0_2, .int .i64 a0_3], .agg #[.int .i64 ji49, .int .i64 0, .slice Ao182 x307002_2.length co182, .slice none 0 0], .int .i64 ji49] rfl (by (try simp only [List.map_toArray, List.map_cons, List.map_nil]); first | done | (simp only [hji49]; rfl) | rfl | (simp only [List.length_drop, List.length_take]; rfl)) ?_; (refine (sandglassref12_counts.calls k2 a0_0 a0_1 a0_2 a0_3 ji49 0 _ _ x307002_2 _ _ ([] : List (S54)) ji49 t310 _ ?side1 ?side2 ?side3 ?side4 A90.out).mono ?_); (case side1 => repeat (first | exact (Kd.R_reads' HO_307002.out).2.2 | (with_reducible refine Kd.C_alloc ?_ _) | (with_reducible refine Kd.C_drewN ?_ _) | (with_reducible refine Kd.C_drew ?_))); (case side2 => exact (Kd.R_reads' HO_307002.out).2.1); (case side3 => exact Kd.C_nil _ _); (case side4 => exact Nat.le_refl _); rintro e w183 ⟨rfl, hb⟩; refine ⟨_, rfl, ?_⟩; replace HO_297002 := vb HO_297002 hb; replace HO_297003 := vb HO_297003 hb; replace HO_307002 := Aside0.mk (Kd.R_below (by (with_reducible repeat (first | apply Kd.R_alloc | apply Kd.R_drewN | apply Kd.R_drew)); exact HO_307002.out) hb); replace BK295 := Aside0.mk (blk_below (bo BK295) hb); replace BK296 := Aside0.mk (blk_below (bo BK296) hb); replace BK297 := Aside0.mk (blk_below (bo BK297) hb); replace BK298 := Aside0.mk (blk_below (bo BK298) hb); replace BK306 := Aside0.mk (blk_below (bo BK306) hb); replace HB := Aside0.mk (below_step (bl HB) hb); (try clear hb); (try clear hb2); (try clear hk); (try clear hi); obtain ⟨hcz184_0, hcz184_1, hcz184_2, hcz184_3⟩ := ce4 BK295; obtain ⟨hfz184_0, hfz184_1, hfz184_2, hfz184_3⟩ := fr4 BK295) | ((with_reducible refine gate_dst (N := 14) rfl ?_); refine box_event ?hg (N := 14) ?hd (cs := #[.bool false, .int .i64 0, .int .i64 0, .int .i64 0]) (t := 32) ?hr ?_; (case hd => rfl); (case hg => rfl); (case hr => first | (go_simp; done) | (go_simp; rfl)); intro gb311 hg w185 hbox hb; have BK311 := Aside0.mk (hbox); have GW311 := Aside0.mk ((by rw [hg]; exact (below_size (bl HB)) : w.heap.size ≤ gb311)); have GE311 := Aside0.mk ((by rw [hg]; exact (below_size (bl HB)) : w.heap.size ≤ gb311)); have NB295_311 := nb BK295 hg; have NB311_295 := bn BK295 hg; have NB296_311 := nb BK296 hg; have NB311_296 := bn BK296 hg; have NB297_311 := nb BK297 hg; have NB311_297 := bn BK297 hg; have NB298_311 := nb BK298 hg; have NB311_298 := bn BK298 hg; have NB306_311 := nb BK306 hg; have NB311_306 := bn BK306 hg; replace HO_297002 := ve HO_297002 hg hb; replace HO_297003 := ve HO_297003 hg hb; replace HO_307002 := Aside0.mk (Kd.R_below (by (with_reducible repeat (first | apply Kd.R_alloc | apply Kd.R_drewN | apply Kd.R_drew)); exact HO_307002.out) hb); replace BK295 := Aside0.mk (blk_below (bo BK295) hb); replace BK296 := Aside0.mk (blk_below (bo BK296) hb); replace BK297 := Aside0.mk (blk_below (bo BK297) hb); replace BK298 := Aside0.mk (blk_below (bo BK298) hb); replace BK306 := Aside0.mk (blk_below (bo BK306) hb); replace HB := Aside0.mk (below_step (bl HB) hb); clear hb hbox hg; have hnb186 := NB311_295.out; have hnc186 := NB295_311.out; have hnb187 := NB311_296.out; have hnc187 := NB296_311.out; have hnb188 := NB311_297.out; have hnc188 := NB297_311.out; have hnb189 := NB311_298.out; have hnc189 := NB298_311.out; have hnb190 := NB311_306.out; have hnc190 := NB306_311.out; obtain ⟨hcz191_0, hcz191_1, hcz191_2, hcz191_3⟩ := ce4 BK311; obtain ⟨hfz191_0, hfz191_1, hfz191_2, hfz191_3⟩ := fr4 BK311; obtain ⟨hcz192_0, hcz192_1, hcz192_2, hcz192_3⟩ := ce4 BK295; obtain ⟨hfz192_0, hfz192_1, hfz192_2, hfz192_3⟩ := fr4 BK295; obtain ⟨hcz193_0, hcz193_1, hcz193_2, hcz193_3⟩ := ce4 BK306; obtain ⟨hfz193_0, hfz193_1, hfz193_2, hfz193_3⟩ := fr4 BK306) | ((with_reducible refine gate_callee (f := 31) rfl ?_); refine goesL_ (some 119) rfl rfl Try.func31 (by kernel_rfl) rfl #[.agg #[.int .i64 a0_0, .int .i64 a0_1, .int .i64 a0_2, .int .i64 a0_3], .agg #[.int .i64 ji49, .int .i64 0, .slice Ao182 x307002_2.length co182, .slice none 0 0], .int .i64 ji49, .int .i64 (wrap64 (a0_1 - a3))] rfl (by (try simp only [List.map_toArray, List.map_cons, List.map_nil]); first | done | (simp only [hji49]; rfl) | rfl | (simp only [List.length_drop, List.length_take]; rfl)) ?_; (refine (sandglassref12_wait.calls k2 a0_0 a0_1 a0_2 a0_3 ji49 0 _ _ x307002_2 _ _ ([] : List (S54)) ji49 (wrap64 (a0_1 - a3)) t316 _ ?side1 ?side2 ?side3 ?side4 A171.out).mono ?_); (case side1 => refine (Kd.R_reads' (e := 3) (base := w.heap.size) (ok := fun k_ => (w.heap.size ≤ k_)) (n := x307002_2.length) (c := co182) ?_).2.2; exact (by (with_reducible repeat (first | apply Kd.R_alloc | apply Kd.R_drewN | apply Kd.R_drew)); exact (Kd.R_mono (Kd.R_far (p := ⟨gb311, 3, none⟩) (Kd.R_far (p := ⟨gb311, 2, none⟩) (Kd.R_far (p := ⟨gb311, 1, none⟩) (Kd.R_far (p := ⟨gb311, 0, none⟩) (Kd.R_types HO_307002.out BK311.out (by decide)) (fun _ hk => hk.2) (.bool false)) (fun _ hk => hk.2) (.int .i64 0)) (fun _ hk => hk.2) (.int .i64 0)) (fun _ hk => hk.2) (.int .i64 0)) (fun _ h_ => h_.1)))); (case side2 => exact (Kd.R_reads' HO_307002.out).2.1); (case side3 => exact Kd.C_nil _ _); (case side4 => exact Nat.le_refl _); rintro e w194 ⟨rfl, hb⟩; refine ⟨_, rfl, ?_⟩; replace HO_297002 := Aside0.mk (Kd.V_below (by (with_reducible repeat (first | apply Kd.V_alloc | apply Kd.V_drewN | apply Kd.V_drew)); exact (Kd.V_mono (Kd.V_far (p := ⟨gb311, 3, none⟩) (Kd.V_far (p := ⟨gb311, 2, none⟩) (Kd.V_far (p := ⟨gb311, 1, none⟩) (Kd.V_far (p := ⟨gb311, 0, none⟩) (Kd.V_mono HO_297002.out (fun k_ hk => (⟨hk, hk.2⟩ : _ ∧ k_ ≠ gb311))) (fun _ hk => hk.2) (.bool false)) (fun _ hk => hk.2) (.int .i64 0)) (fun _ hk => hk.2) (.int .i64 0)) (fun _ hk => hk.2) (.int .i64 0)) (fun _ h_ => h_.1))) hb); replace HO_297003 := Aside0.mk (Kd.V_below (by (with_reducible repeat (first | apply Kd.V_alloc | apply Kd.V_drewN | apply Kd.V_drew)); exact (Kd.V_mono (Kd.V_far (p := ⟨gb311, 3, none⟩) (Kd.V_far (p := ⟨gb311, 2, none⟩) (Kd.V_far (p := ⟨gb311, 1, none⟩) (Kd.V_far (p := ⟨gb311, 0, none⟩) (Kd.V_mono HO_297003.out (fun k_ hk => (⟨hk, hk.2⟩ : _ ∧ k_ ≠ gb311))) (fun _ hk => hk.2) (.bool false)) (fun _ hk => hk.2) (.int .i64 0)) (fun _ hk => hk.2) (.int .i64 0)) (fun _ hk => hk.2) (.int .i64 0)) (fun _ h_ => h_.1))) hb); replace HO_307002 := Aside0.mk (Kd.R_below (by (with_reducible repeat (first | apply Kd.R_alloc | apply Kd.R_drewN | apply Kd.R_drew)); exact (Kd.R_mono (Kd.R_far (p := ⟨gb311, 3, none⟩) (Kd.R_far (p := ⟨gb311, 2, none⟩) (Kd.R_far (p := ⟨gb311, 1, none⟩) (Kd.R_far (p := ⟨gb311, 0, none⟩) (Kd.R_types HO_307002.out BK311.out (by decide)) (fun _ hk => hk.2) (.bool false)) (fun _ hk => hk.2) (.int .i64 0)) (fun _ hk => hk.2) (.int .i64 0)) (fun _ hk => hk.2) (.int .i64 0)) (fun _ h_ => h_.1))) hb); replace BK295 := Aside0.mk (blk_below (g := gb295) (o := .cells #[.int .i64 a0_0, .int .i64 a0_1, .int .i64 a0_2, .int .i64 a0_3] 23 (0, 0)) (by (with_reducible repeat (first | refine blk_drewN ?_ _ | refine blk_drew ?_ | refine blk_alloc ?_ _)); refine blk_far ?_ NB295_311.out _; (with_reducible repeat (first | refine blk_drewN ?_ _ | refine blk_drew ?_ | refine blk_alloc ?_ _)); refine blk_far ?_ NB295_311.out _; (with_reducible repeat (first | refine blk_drewN ?_ _ | refine blk_drew ?_ | refine blk_alloc ?_ _)); refine blk_far ?_ NB295_311.out _; (with_reducible repeat (first | refine blk_drewN ?_ _ | refine blk_drew ?_ | refine blk_alloc ?_ _)); refine blk_far ?_ NB295_311.out _; (with_reducible repeat (first | refine blk_drewN ?_ _ | refine blk_drew ?_ | refine blk_alloc ?_ _)); exact BK295.out) hb); replace BK296 := Aside0.mk (blk_below (g := gb296) (o := .cells #[.int .i64 a1_0, .int .i64 a1_1, u297002, .slice A1_3 l1_3.length c1_3] 27 (0, 0)) (by (with_reducible repeat (first | refine blk_drewN ?_ _ | refine blk_drew ?_ | refine blk_alloc ?_ _)); refine blk_far ?_ NB296_311.out _; (with_reducible repeat (first | refine blk_drewN ?_ _ | refine blk_drew ?_ | refine blk_alloc ?_ _)); refine blk_far ?_ NB296_311.out _; (with_reducible repeat (first | refine blk_drewN ?_ _ | refine blk_drew ?_ | refine blk_alloc ?_ _)); refine blk_far ?_ NB296_311.out _; (with_reducible repeat (first | refine blk_drewN ?_ _ | refine blk_drew ?_ | refine blk_alloc ?_ _)); refine blk_far ?_ NB296_311.out _; (with_reducible repeat (first | refine blk_drewN ?_ _ | refine blk_drew ?_ | refine blk_alloc ?_ _)); exact BK296.out) hb); replace BK297 := Aside0.mk (blk_below (g := gb297) (o := .cells #[.int .i64 0, .int .i64 0, .slice none 0 0, .slice none 0 0] 27 (0, 0)) (by (with_reducible repeat (first | refine blk_drewN ?_ _ | refine blk_drew ?_ | refine blk_alloc ?_ _)); refine blk_far ?_ NB297_311.out _; (with_reducible repeat (first | refine blk_drewN ?_ _ | refine blk_drew ?_ | refine blk_alloc ?_ _)); refine blk_far ?_ NB297_311.out _; (with_reducible repeat (first | refine blk_drewN ?_ _ | refine blk_drew ?_ | refine blk_alloc ?_ _)); refine blk_far ?_ NB297_311.out _; (with_reducible repeat (first | refine blk_drewN ?_ _ | refine blk_drew ?_ | refine blk_alloc ?_ _)); refine blk_far ?_ NB297_311.out _; (with_reducible repeat (first | refine blk_drewN ?_ _ | refine blk_drew ?_ | refine blk_alloc ?_ _)); exact BK297.out) hb); replace BK298 := Aside0.mk (blk_below (g := gb298) (o := .cells #[.bool false, .int .i64 0, .int .i64 0, .int .i64 0] 32 (0, 0)) (by (with_reducible repeat (first | refine blk_drewN ?_ _ | refine blk_drew ?_ | refine blk_alloc ?_ _)); refine blk_far ?_ NB298_311.out _; (with_reducible repeat (first | refine blk_drewN ?_ _ | refine blk_drew ?_ | refine blk_alloc ?_ _)); refine blk_far ?_ NB298_311.out _; (with_reducible repeat (first | refine blk_drewN ?_ _ | refine blk_drew ?_ | refine blk_alloc ?_ _)); refine blk_far ?_ NB298_311.out _; (with_reducible repeat (first | refine blk_drewN ?_ _ | refine blk_drew ?_ | refine blk_alloc ?_ _)); refine blk_far ?_ NB298_311.out _; (with_reducible repeat (first | refine blk_drewN ?_ _ | refine blk_drew ?_ | refine blk_alloc ?_ _)); exact BK298.out) hb); replace BK306 := Aside0.mk (blk_below (g := gb306) (o := .cells #[.int .i64 ji49, .int .i64 0, .slice Ao182 x307002_2.length co182, .slice none 0 0] 27 (0, 0)) (by (with_reducible repeat (first | refine blk_drewN ?_ _ | refine blk_drew ?_ | refine blk_alloc ?_ _)); refine blk_far ?_ NB306_311.out _; (with_reducible repeat (first | refine blk_drewN ?_ _ | refine blk_drew ?_ | refine blk_alloc ?_ _)); refine blk_far ?_ NB306_311.out _; (with_reducible repeat (first | refine blk_drewN ?_ _ | refine blk_drew ?_ | refine blk_alloc ?_ _)); refine blk_far ?_ NB306_311.out _; (with_reducible repeat (first | refine blk_drewN ?_ _ | refine blk_drew ?_ | refine blk_alloc ?_ _)); refine blk_far ?_ NB306_311.out _; (with_reducible repeat (first | refine blk_drewN ?_ _ | refine blk_drew ?_ | refine blk_alloc ?_ _)); exact BK306.out) hb); replace BK311 := Aside0.mk (blk_below (g := gb311) (o := .cells #[.bool false, .int .i64 0, .int .i64 0, .int .i64 0] 32 (0, 0)) (by (with_reducible repeat (first | refine blk_drewN ?_ _ | refine blk_drew ?_ | refine blk_alloc ?_ _)); refine blk_put (cs := #[.bool false, .int .i64 0, .int .i64 0, .int .i64 0]) ?_ 3 _ rfl; (with_reducible repeat (first | refine blk_drewN ?_ _ | refine blk_drew ?_ | refine blk_alloc ?_ _)); refine blk_put (cs := #[.bool false, .int .i64 0, .int .i64 0, .int .i64 0]) ?_ 2 _ rfl; (with_reducible repeat (first | refine blk_drewN ?_ _ | refine blk_drew ?_ | refine blk_alloc ?_ _)); refine blk_put (cs := #[.bool false, .int .i64 0, .int .i64 0, .int .i64 0]) ?_ 1 _ rfl; (with_reducible repeat (first | refine blk_drewN ?_ _ | refine blk_drew ?_ | refine blk_alloc ?_ _)); refine blk_put (cs := #[.bool false, .int .i64 0, .int .i64 0, .int .i64 0]) ?_ 0 _ rfl; (with_reducible repeat (first | refine blk_drewN ?_ _ | refine blk_drew ?_ | refine blk_alloc ?_ _)); exact BK311.out) hb); replace HB := Aside0.mk (below_step (bl HB) hb); (try clear hb); (try clear hb2); (try clear hk); (try clear hi); obtain ⟨hcz195_0, hcz195_1, hcz195_2, hcz195_3⟩ := ce4 BK311; obtain ⟨hfz195_0, hfz195_1, hfz195_2, hfz195_3⟩ := fr4 BK311; obtain ⟨hcz196_0, hcz196_1, hcz196_2, hcz196_3⟩ := ce4 BK295; obtain ⟨hfz196_0, hfz196_1, hfz196_2, hfz196_3⟩ := fr4 BK295; obtain ⟨hcz197_0, hcz197_1, hcz197_2, hcz197_3⟩ := ce4 BK306; obtain ⟨hfz197_0, hfz197_1, hfz197_2, hfz197_3⟩ := fr4 BK306) | ((with_reducible refine gate_callee (f := 31) rfl ?_); refine goesL_ (some 129) rfl rfl Try.func31 (by kernel_rfl) rfl #[.agg #[.int .i64 a0_0, .int .i64 a0_1, .int .i64 a0_2, .int .i64 a0_3], .agg #[.int .i64 ji49, .int .i64 0, .slice Ao182 x307002_2.length co182, .slice none 0 0], .int .i64 ji49, .int .i64 0] rfl (by (try simp only [List.map_toArray, List.map_cons, List.map_nil]); first | done | (simp only [hji49]; rfl) | rfl | (simp only [List.length_drop, List.length_take]; rfl)) ?_; (refine (sandglassref12_wait.calls k2 a0_0 a0_1 a0_2 a0_3 ji49 0 _ _ x307002_2 _ _ ([] : List (S54)) ji49 0 t317 _ ?side1 ?side2 ?side3 ?side4 A172.out).mono ?_); (case side1 => refine (Kd.R_reads' (e := 3) (base := w.heap.size) (ok := fun k_ => (w.heap.size ≤ k_)) (n := x307002_2.length) (c := co182) ?_).2.2; exact (by (with_reducible repeat (first | apply Kd.R_alloc | apply Kd.R_drewN | apply Kd.R_drew)); exact (Kd.R_mono (Kd.R_far (p := ⟨gb311, 1, none⟩) (Kd.R_far (p := ⟨gb311, 2, none⟩) (Kd.R_types HO_307002.out BK311.out (by decide)) (fun _ hk => hk.2) (.int .i64 t316)) (fun _ hk => hk.2) (.int .i64 (wrap64 (a0_1 - t310)))) (fun _ h_ => h_.1)))); (case side2 => exact (Kd.R_reads' HO_307002.out).2.1); (case side3 => exact Kd.C_nil _ _); (case side4 => exact Nat.le_refl _); rintro e w198 ⟨rfl, hb⟩; refine ⟨_, rfl, ?_⟩; replace HO_297002 := Aside0.mk (Kd.V_below (by (with_reducible repeat (first | apply Kd.V_alloc | apply Kd.V_drewN | apply Kd.V_drew)); exact (Kd.V_mono (Kd.V_far (p := ⟨gb311, 1, none⟩) (Kd.V_far (p := ⟨gb311, 2, none⟩) (Kd.V_mono HO_297002.out (fun k_ hk => (⟨hk, hk.2⟩ : _ ∧ k_ ≠ gb311))) (fun _ hk => hk.2) (.int .i64 t316)) (fun _ hk => hk.2) (.int .i64 (wrap64 (a0_1 - t310)))) (fun _ h_ => h_.1))) hb); replace HO_297003 := Aside0.mk (Kd.V_below (by (with_reducible repeat (first | apply Kd.V_alloc | apply Kd.V_drewN | apply Kd.V_drew)); exact (Kd.V_mono (Kd.V_far (p := ⟨gb311, 1, none⟩) (Kd.V_far (p := ⟨gb311, 2, none⟩) (Kd.V_mono HO_297003.out (fun k_ hk => (⟨hk, hk.2⟩ : _ ∧ k_ ≠ gb311))) (fun _ hk => hk.2) (.int .i64 t316)) (fun _ hk => hk.2) (.int .i64 (wrap64 (a0_1 - t310)))) (fun _ h_ => h_.1))) hb); replace HO_307002 := Aside0.mk (Kd.R_below (by (with_reducible repeat (first | apply Kd.R_alloc | apply Kd.R_drewN | apply Kd.R_drew)); exact (Kd.R_mono (Kd.R_far (p := ⟨gb311, 1, none⟩) (Kd.R_far (p := ⟨gb311, 2, none⟩) (Kd.R_types HO_307002.out BK311.out (by decide)) (fun _ hk => hk.2) (.int .i64 t316)) (fun _ hk => hk.2) (.int .i64 (wrap64 (a0_1 - t310)))) (fun _ h_ => h_.1))) hb); replace BK295 := Aside0.mk (blk_below (g := gb295) (o := .cells #[.int .i64 a0_0, .int .i64 a0_1, .int .i64 a0_2, .int .i64 a0_3] 23 (0, 0)) (by (with_reducible repeat (first | refine blk_drewN ?_ _ | refine blk_drew ?_ | refine blk_alloc ?_ _)); refine blk_far ?_ NB295_311.out _; (with_reducible repeat (first | refine blk_drewN ?_ _ | refine blk_drew ?_ | refine blk_alloc ?_ _)); refine blk_far ?_ NB295_311.out _; (with_reducible repeat (first | refine blk_drewN ?_ _ | refine blk_drew ?_ | refine blk_alloc ?_ _)); exact BK295.out) hb); replace BK296 := Aside0.mk (blk_below (g := gb296) (o := .cells #[.int .i64 a1_0, .int .i64 a1_1, u297002, .slice A1_3 l1_3.length c1_3] 27 (0, 0)) (by (with_reducible repeat (first | refine blk_drewN ?_ _ | refine blk_drew ?_ | refine blk_alloc ?_ _)); refine blk_far ?_ NB296_311.out _; (with_reducible repeat (first | refine blk_drewN ?_ _ | refine blk_drew ?_ | refine blk_alloc ?_ _)); refine blk_far ?_ NB296_311.out _; (with_reducible repeat (first | refine blk_drewN ?_ _ | refine blk_drew ?_ | refine blk_alloc ?_ _)); exact BK296.out) hb); replace BK297 := Aside0.mk (blk_below (g := gb297) (o := .cells #[.int .i64 0, .int .i64 0, .slice none 0 0, .slice none 0 0] 27 (0, 0)) (by (with_reducible repeat (first | refine blk_drewN ?_ _ | refine blk_drew ?_ | refine blk_alloc ?_ _)); refine blk_far ?_ NB297_311.out _; (with_reducible repeat (first | refine blk_drewN ?_ _ | refine blk_drew ?_ | refine blk_alloc ?_ _)); refine blk_far ?_ NB297_311.out _; (with_reducible repeat (first | refine blk_drewN ?_ _ | refine blk_drew ?_ | refine blk_alloc ?_ _)); exact BK297.out) hb); replace BK298 := Aside0.mk (blk_below (g := gb298) (o := .cells #[.bool false, .int .i64 0, .int .i64 0, .int .i64 0] 32 (0, 0)) (by (with_reducible repeat (first | refine blk_drewN ?_ _ | refine blk_drew ?_ | refine blk_alloc ?_ _)); refine blk_far ?_ NB298_311.out _; (with_reducible repeat (first | refine blk_drewN ?_ _ | refine blk_drew ?_ | refine blk_alloc ?_ _)); refine blk_far ?_ NB298_311.out _; (with_reducible repeat (first | refine blk_drewN ?_ _ | refine blk_drew ?_ | refine blk_alloc ?_ _)); exact BK298.out) hb); replace BK306 := Aside0.mk (blk_below (g := gb306) (o := .cells #[.int .i64 ji49, .int .i64 0, .slice Ao182 x307002_2.length co182, .slice none 0 0] 27 (0, 0)) (by (with_reducible repeat (first | refine blk_drewN ?_ _ | refine blk_drew ?_ | refine blk_alloc ?_ _)); refine blk_far ?_ NB306_311.out _; (with_reducible repeat (first | refine blk_drewN ?_ _ | refine blk_drew ?_ | refine blk_alloc ?_ _)); refine blk_far ?_ NB306_311.out _; (with_reducible repeat (first | refine blk_drewN ?_ _ | refine blk_drew ?_ | refine blk_alloc ?_ _)); exact BK306.out) hb); replace BK311 := Aside0.mk (blk_below (g := gb311) (o := .cells #[.bool false, .int .i64 (wrap64 (a0_1 - t310)), .int .i64 t316, .int .i64 0] 32 (0, 0)) (by (with_reducible repeat (first | refine blk_drewN ?_ _ | refine blk_drew ?_ | refine blk_alloc ?_ _)); refine blk_put (cs := #[.bool false, .int .i64 0, .int .i64 t316, .int .i64 0]) ?_ 1 _ rfl; (with_reducible repeat (first | refine blk_drewN ?_ _ | refine blk_drew ?_ | refine blk_alloc ?_ _)); refine blk_put (cs := #[.bool false, .int .i64 0, .int .i64 0, .int .i64 0]) ?_ 2 _ rfl; (with_reducible repeat (first | refine blk_drewN ?_ _ | refine blk_drew ?_ | refine blk_alloc ?_ _)); exact BK311.out) hb); replace HB := Aside0.mk (below_step (bl HB) hb); (try clear hb); (try clear hb2); (try clear hk); (try clear hi); obtain ⟨hcz199_0, hcz199_1, hcz199_2, hcz199_3⟩ := ce4 BK311; obtain ⟨hfz199_0, hfz199_1, hfz199_2, hfz199_3⟩ := fr4 BK311))
           have n0_ : Aside0 (Kd.V (Kd.int .i64) 3 (w198.setCell ⟨gb311, 3, none⟩ (.int .i64 t317)) w.heap.size (fun k_ => ((P1_2_ k_ ∨ P1_3_ k_) ∨ w.heap.size ≤ k_) ∧ some k_ ≠ (.slice Ao182 x307002_2.length co182 : Value).ownBlock ∧ k_ ≠ gb295 ∧ k_ ≠ gb296 ∧ k_ ≠ gb297 ∧ k_ ≠ gb298 ∧ k_ ≠ gb306 ∧ k_ ≠ gb311) u297002 x297002_2) := ⟨by (with_reducible repeat (first | apply Kd.V_alloc | apply Kd.V_drewN | apply Kd.V_drew)); exact Kd.V_mono (Kd.V_far (p := ⟨gb311, 3, none⟩) (Kd.V_mono HO_297002.out (fun k_ hk => (⟨hk, hk.2⟩ : _ ∧ k_ ≠ gb311))) (fun _ hk => hk.2) (.int .i64 t317)) (fun _ hk => ⟨hk.1.1.1, ⟨hk.1.1.2.1, ⟨hk.1.1.2.2.1, ⟨hk.1.1.2.2.2.1, ⟨hk.1.1.2.2.2.2.1, ⟨hk.1.1.2.2.2.2.2.1, ⟨hk.1.1.2.2.2.2.2.2, hk.1.2⟩⟩⟩⟩⟩⟩⟩)⟩
           have n1_ : Aside0 (Kd.V k54 54 (w198.setCell ⟨gb311, 3, none⟩ (.int .i64 t317)) w.heap.size (fun k_ => ((P1_2_ k_ ∨ P1_3_ k_) ∨ w.heap.size ≤ k_) ∧ some k_ ≠ (.slice Ao182 x307002_2.length co182 : Value).ownBlock ∧ k_ ≠ gb295 ∧ k_ ≠ gb296 ∧ k_ ≠ gb297 ∧ k_ ≠ gb298 ∧ k_ ≠ gb306 ∧ k_ ≠ gb311) (.slice A1_3 l1_3.length c1_3) l1_3) := ⟨by (with_reducible repeat (first | apply Kd.V_alloc | apply Kd.V_drewN | apply Kd.V_drew)); exact Kd.V_mono (Kd.V_far (p := ⟨gb311, 3, none⟩) (Kd.V_mono HO_297003.out (fun k_ hk => (⟨hk, hk.2⟩ : _ ∧ k_ ≠ gb311))) (fun _ hk => hk.2) (.int .i64 t317)) (fun _ hk => ⟨hk.1.1.1, ⟨hk.1.1.2.1, ⟨hk.1.1.2.2.1, ⟨hk.1.1.2.2.2.1, ⟨hk.1.1.2.2.2.2.1, ⟨hk.1.1.2.2.2.2.2.1, ⟨hk.1.1.2.2.2.2.2.2, hk.1.2⟩⟩⟩⟩⟩⟩⟩)⟩
           have n2_ : Aside0 (Kd.R (Kd.int .i64) 3 (w198.setCell ⟨gb311, 3, none⟩ (.int .i64 t317)) w.heap.size (fun k_ => (w.heap.size ≤ k_)) (.slice Ao182 x307002_2.length co182) x307002_2) := ⟨by (with_reducible repeat (first | apply Kd.R_alloc | apply Kd.R_drewN | apply Kd.R_drew)); exact Kd.R_mono (Kd.R_far (p := ⟨gb311, 3, none⟩) (Kd.R_types HO_307002.out BK311.out (by decide)) (fun _ hk => hk.2) (.int .i64 t317)) (fun _ hk => hk.1)⟩
           have n3_ : Aside0 ((w198.setCell ⟨gb311, 3, none⟩ (.int .i64 t317)).heap[gb295]? = some (.cells #[.int .i64 a0_0, .int .i64 a0_1, .int .i64 a0_2, .int .i64 a0_3] 23 (0, 0))) := ⟨by (with_reducible repeat (first | refine blk_drewN ?_ _ | refine blk_drew ?_ | refine blk_alloc ?_ _)); refine blk_far ?_ NB295_311.out _; (with_reducible repeat (first | refine blk_drewN ?_ _ | refine blk_drew ?_ | refine blk_alloc ?_ _)); exact BK295.out⟩
           have n4_ : Aside0 ((w198.setCell ⟨gb311, 3, none⟩ (.int .i64 t317)).heap[gb296]? = some (.cells #[.int .i64 a1_0, .int .i64 a1_1, u297002, .slice A1_3 l1_3.length c1_3] 27 (0, 0))) := ⟨by (with_reducible repeat (first | refine blk_drewN ?_ _ | refine blk_drew ?_ | refine blk_alloc ?_ _)); refine blk_far ?_ NB296_311.out _; (with_reducible repeat (first | refine blk_drewN ?_ _ | refine blk_drew ?_ | refine blk_alloc ?_ _)); exact BK296.out⟩
           have n5_ : Aside0 ((w198.setCell ⟨gb311, 3, none⟩ (.int .i64 t317)).heap[gb297]? = some (.cells #[.int .i64 0, .int .i64 0, .slice none 0 0, .slice none 0 0] 27 (0, 0))) := ⟨by (with_reducible repeat (first | refine blk_drewN ?_ _ | refine blk_drew ?_ | refine blk_alloc ?_ _)); refine blk_far ?_ NB297_311.out _; (with_reducible repeat (first | refine blk_drewN ?_ _ | refine blk_drew ?_ | refine blk_alloc ?_ _)); exact BK297.out⟩
           have n6_ : Aside0 ((w198.setCell ⟨gb311, 3, none⟩ (.int .i64 t317)).heap[gb298]? = some (.cells #[.bool false, .int .i64 0, .int .i64 0, .int .i64 0] 32 (0, 0))) := ⟨by (with_reducible repeat (first | refine blk_drewN ?_ _ | refine blk_drew ?_ | refine blk_alloc ?_ _)); refine blk_far ?_ NB298_311.out _; (with_reducible repeat (first | refine blk_drewN ?_ _ | refine blk_drew ?_ | refine blk_alloc ?_ _)); exact BK298.out⟩
           have n7_ : Aside0 ((w198.setCell ⟨gb311, 3, none⟩ (.int .i64 t317)).heap[gb306]? = some (.cells #[.int .i64 ji49, .int .i64 0, .slice Ao182 x307002_2.length co182, .slice none 0 0] 27 (0, 0))) := ⟨by (with_reducible repeat (first | refine blk_drewN ?_ _ | refine blk_drew ?_ | refine blk_alloc ?_ _)); refine blk_far ?_ NB306_311.out _; (with_reducible repeat (first | refine blk_drewN ?_ _ | refine blk_drew ?_ | refine blk_alloc ?_ _)); exact BK306.out⟩
           have n8_ : Aside0 ((w198.setCell ⟨gb311, 3, none⟩ (.int .i64 t317)).heap[gb311]? = some (.cells #[.bool false, .int .i64 (wrap64 (a0_1 - t310)), .int .i64 t316, .int .i64 t317] 32 (0, 0))) := ⟨by (with_reducible repeat (first | refine blk_drewN ?_ _ | refine blk_drew ?_ | refine blk_alloc ?_ _)); refine blk_put (cs := #[.bool false, .int .i64 (wrap64 (a0_1 - t310)), .int .i64 t316, .int .i64 0]) ?_ 3 _ rfl; (with_reducible repeat (first | refine blk_drewN ?_ _ | refine blk_drew ?_ | refine blk_alloc ?_ _)); exact BK311.out⟩
           have n9_ : Aside0 (Below w.heap.size w (w198.setCell ⟨gb311, 3, none⟩ (.int .i64 t317))) := ⟨bl HB⟩
           (try clear HO_297002)
           (try clear HO_297003)
           (try clear HO_307002)
           (try clear BK295)
           (try clear BK296)
           (try clear BK297)
           (try clear BK298)
           (try clear BK306)
           (try clear BK311)
           (try clear HB)
           generalize (w198.setCell ⟨gb311, 3, none⟩ (.int .i64 t317)) = w200 at n0_ n1_ n2_ n3_ n4_ n5_ n6_ n7_ n8_ n9_ ⊢
           have HO_297002 := n0_
           have HO_297003 := n1_
           have HO_307002 := n2_
           have BK295 := n3_
           have BK296 := n4_
           have BK297 := n5_
           have BK298 := n6_
           have BK306 := n7_
           have BK311 := n8_
           have HB := n9_
           clear n0_ n1_ n2_ n3_ n4_ n5_ n6_ n7_ n8_ n9_
           replace HO_297002 := Aside0.mk (Kd.V_drew HO_297002.out)
           replace HO_297003 := Aside0.mk (Kd.V_drew HO_297003.out)
           replace HO_307002 := Aside0.mk (Kd.R_drew HO_307002.out)
           replace BK295 := Aside0.mk (blk_drew BK295.out)
           replace BK296 := Aside0.mk (blk_drew BK296.out)
           replace BK297 := Aside0.mk (blk_drew BK297.out)
           replace BK298 := Aside0.mk (blk_drew BK298.out)
           replace BK306 := Aside0.mk (blk_drew BK306.out)
           replace BK311 := Aside0.mk (blk_drew BK311.out)
           replace HB := Aside0.mk (below_drew1 HB.out)
           refine start_ (n := 4) (S := fun w' => w'.cell? ⟨gb306, 0, none⟩ = some (.int .i64 ji49) ∧ w'.cell? ⟨gb306, 1, none⟩ = some (.int .i64 0) ∧ w'.cell? ⟨gb306, 2, none⟩ = some (.slice Ao182 x307002_2.length co182) ∧ w'.cell? ⟨gb306, 3, none⟩ = some (.slice none 0 0) ∧ w'.cell? ⟨gb311, 0, none⟩ = some (.bool false) ∧ w'.cell? ⟨gb311, 1, none⟩ = some (.int .i64 (wrap64 (a0_1 - t310))) ∧ w'.cell? ⟨gb311, 2, none⟩ = some (.int .i64 t316) ∧ w'.cell? ⟨gb311, 3, none⟩ = some (.int .i64 t317)) (ds := []) #[false, false, false, false] (by kernel_rfl) rfl rfl ⟨(blk_cell BK306.out 0).trans rfl, (blk_cell BK306.out 1).trans rfl, (blk_cell BK306.out 2).trans rfl, (blk_cell BK306.out 3).trans rfl, (blk_cell BK311.out 0).trans rfl, (blk_cell BK311.out 1).trans rfl, (blk_cell BK311.out 2).trans rfl, (blk_cell BK311.out 3).trans rfl⟩ (fun hHeld => ?_)
           generalize w200.drew = w201 at HO_297002 HO_297003 HO_307002 BK295 BK296 BK297 BK298 BK306 BK311 HB hHeld ⊢
           refine takeB' 0 131 hHeld ?_
           refine takeB' 1 132 hHeld ?_
           refine one_ (i := 2) (N := none) #[true, true, true, false] rfl rfl (by kernel_rfl) (by decide) (fun K hK => ?_)
           have hs202 : w201.cell? ⟨gb297, 0, none⟩ = some (.int .i64 0) := (blk_cell BK297.out 0).trans rfl
           have hfs202 := blk_frozen BK297.out 0
           have hns202_0 := NB295_297.out
           have hns202_1 := NB296_297.out
           have hns202_3 := NB298_297.out
           have hns202_4 := NB306_297.out
           have hns202_5 := NB311_297.out
           have hms202_0 := NB297_295.out
           have hms202_1 := NB297_296.out
           have hms202_3 := NB297_298.out
           have hms202_4 := NB297_306.out
           have hms202_5 := NB297_311.out
           have hs203 : w201.cell? ⟨gb297, 1, none⟩ = some (.int .i64 0) := (blk_cell BK297.out 1).trans rfl
           have hfs203 := blk_frozen BK297.out 1
           have hns203_0 := NB295_297.out
           have hns203_1 := NB296_297.out
           have hns203_3 := NB298_297.out
           have hns203_4 := NB306_297.out
           have hns203_5 := NB311_297.out
           have hms203_0 := NB297_295.out
           have hms203_1 := NB297_296.out
           have hms203_3 := NB297_298.out
           have hms203_4 := NB297_306.out
           have hms203_5 := NB297_311.out
           have hs204 : w201.cell? ⟨gb297, 2, none⟩ = some (.slice none 0 0) := (blk_cell BK297.out 2).trans rfl
           have hfs204 := blk_frozen BK297.out 2
           have hns204_0 := NB295_297.out
           have hns204_1 := NB296_297.out
           have hns204_3 := NB298_297.out
           have hns204_4 := NB306_297.out
           have hns204_5 := NB311_297.out
           have hms204_0 := NB297_295.out
           have hms204_1 := NB297_296.out
           have hms204_3 := NB297_298.out
           have hms204_4 := NB297_306.out
           have hms204_5 := NB297_311.out
           have hs205 : w201.cell? ⟨gb297, 3, none⟩ = some (.slice none 0 0) := (blk_cell BK297.out 3).trans rfl
           have hfs205 := blk_frozen BK297.out 3
           have hns205_0 := NB295_297.out
           have hns205_1 := NB296_297.out
           have hns205_3 := NB298_297.out
           have hns205_4 := NB306_297.out
           have hns205_5 := NB311_297.out
           have hms205_0 := NB297_295.out
           have hms205_1 := NB297_296.out
           have hms205_3 := NB297_298.out
           have hms205_4 := NB297_306.out
           have hms205_5 := NB297_311.out
           refine skip_ (w1 := ?_) (by rfl) rfl ?_ ?_
           rotate_left
           ·go_simp
            rfl
           refine hK.out _ _ ⟨((cell_far (p := ⟨gb297, _, none⟩) NB306_297.out _).trans (((cell_far (p := ⟨gb297, _, none⟩) NB306_297.out _).trans (((cell_far (p := ⟨gb297, _, none⟩) NB306_297.out _).trans (((cell_far (p := ⟨gb297, _, none⟩) NB306_297.out _).trans (hHeld.1)))))))), ((cell_far (p := ⟨gb297, _, none⟩) NB306_297.out _).trans (((cell_far (p := ⟨gb297, _, none⟩) NB306_297.out _).trans (((cell_far (p := ⟨gb297, _, none⟩) NB306_297.out _).trans (((cell_far (p := ⟨gb297, _, none⟩) NB306_297.out _).trans (hHeld.2.1)))))))), ((cell_far (p := ⟨gb297, _, none⟩) NB306_297.out _).trans (((cell_far (p := ⟨gb297, _, none⟩) NB306_297.out _).trans (((cell_far (p := ⟨gb297, _, none⟩) NB306_297.out _).trans (((cell_far (p := ⟨gb297, _, none⟩) NB306_297.out _).trans (hHeld.2.2.1)))))))), ((cell_far (p := ⟨gb297, _, none⟩) NB306_297.out _).trans (((cell_far (p := ⟨gb297, _, none⟩) NB306_297.out _).trans (((cell_far (p := ⟨gb297, _, none⟩) NB306_297.out _).trans (((cell_far (p := ⟨gb297, _, none⟩) NB306_297.out _).trans (hHeld.2.2.2.1)))))))), ((cell_far (p := ⟨gb297, _, none⟩) NB311_297.out _).trans (((cell_far (p := ⟨gb297, _, none⟩) NB311_297.out _).trans (((cell_far (p := ⟨gb297, _, none⟩) NB311_297.out _).trans (((cell_far (p := ⟨gb297, _, none⟩) NB311_297.out _).trans (hHeld.2.2.2.2.1)))))))), ((cell_far (p := ⟨gb297, _, none⟩) NB311_297.out _).trans (((cell_far (p := ⟨gb297, _, none⟩) NB311_297.out _).trans (((cell_far (p := ⟨gb297, _, none⟩) NB311_297.out _).trans (((cell_far (p := ⟨gb297, _, none⟩) NB311_297.out _).trans (hHeld.2.2.2.2.2.1)))))))), ((cell_far (p := ⟨gb297, _, none⟩) NB311_297.out _).trans (((cell_far (p := ⟨gb297, _, none⟩) NB311_297.out _).trans (((cell_far (p := ⟨gb297, _, none⟩) NB311_297.out _).trans (((cell_far (p := ⟨gb297, _, none⟩) NB311_297.out _).trans (hHeld.2.2.2.2.2.2.1)))))))), ((cell_far (p := ⟨gb297, _, none⟩) NB311_297.out _).trans (((cell_far (p := ⟨gb297, _, none⟩) NB311_297.out _).trans (((cell_far (p := ⟨gb297, _, none⟩) NB311_297.out _).trans (((cell_far (p := ⟨gb297, _, none⟩) NB311_297.out _).trans (hHeld.2.2.2.2.2.2.2))))))))⟩ (fun hHeld => ?_)
           clear hK K
           refine one_ (i := 3) (N := none) #[true, true, true, true] rfl rfl (by kernel_rfl) (by decide) (fun K hK => ?_)
           have hs206 : w201.cell? ⟨gb298, 0, none⟩ = some (.bool false) := (blk_cell BK298.out 0).trans rfl
           have hfs206 := blk_frozen BK298.out 0
           have hns206_0 := NB295_298.out
           have hns206_1 := NB296_298.out
           have hns206_2 := NB297_298.out
           have hns206_4 := NB306_298.out
           have hns206_5 := NB311_298.out
           have hms206_0 := NB298_295.out
           have hms206_1 := NB298_296.out
           have hms206_2 := NB298_297.out
           have hms206_4 := NB298_306.out
           have hms206_5 := NB298_311.out
           have hs207 : w201.cell? ⟨gb298, 1, none⟩ = some (.int .i64 0) := (blk_cell BK298.out 1).trans rfl
           have hfs207 := blk_frozen BK298.out 1
           have hns207_0 := NB295_298.out
           have hns207_1 := NB296_298.out
           have hns207_2 := NB297_298.out
           have hns207_4 := NB306_298.out
           have hns207_5 := NB311_298.out
           have hms207_0 := NB298_295.out
           have hms207_1 := NB298_296.out
           have hms207_2 := NB298_297.out
           have hms207_4 := NB298_306.out
           have hms207_5 := NB298_311.out
           have hs208 : w201.cell? ⟨gb298, 2, none⟩ = some (.int .i64 0) := (blk_cell BK298.out 2).trans rfl
           have hfs208 := blk_frozen BK298.out 2
           have hns208_0 := NB295_298.out
           have hns208_1 := NB296_298.out
           have hns208_2 := NB297_298.out
           have hns208_4 := NB306_298.out
           have hns208_5 := NB311_298.out
           have hms208_0 := NB298_295.out
           have hms208_1 := NB298_296.out
           have hms208_2 := NB298_297.out
           have hms208_4 := NB298_306.out
           have hms208_5 := NB298_311.out
           have hs209 : w201.cell? ⟨gb298, 3, none⟩ = some (.int .i64 0) := (blk_cell BK298.out 3).trans rfl
           have hfs209 := blk_frozen BK298.out 3
           have hns209_0 := NB295_298.out
           have hns209_1 := NB296_298.out
           have hns209_2 := NB297_298.out
           have hns209_4 := NB306_298.out
           have hns209_5 := NB311_298.out
           have hms209_0 := NB298_295.out
           have hms209_1 := NB298_296.out
           have hms209_2 := NB298_297.out
           have hms209_4 := NB298_306.out
           have hms209_5 := NB298_311.out
           refine skip_ (w1 := ?_) (by rfl) rfl ?_ ?_
           rotate_left
           ·go_simp
            rfl
           refine hK.out _ _ ⟨((cell_far (p := ⟨gb298, _, none⟩) NB306_298.out _).trans (((cell_far (p := ⟨gb298, _, none⟩) NB306_298.out _).trans (((cell_far (p := ⟨gb298, _, none⟩) NB306_298.out _).trans (((cell_far (p := ⟨gb298, _, none⟩) NB306_298.out _).trans (hHeld.1)))))))), ((cell_far (p := ⟨gb298, _, none⟩) NB306_298.out _).trans (((cell_far (p := ⟨gb298, _, none⟩) NB306_298.out _).trans (((cell_far (p := ⟨gb298, _, none⟩) NB306_298.out _).trans (((cell_far (p := ⟨gb298, _, none⟩) NB306_298.out _).trans (hHeld.2.1)))))))), ((cell_far (p := ⟨gb298, _, none⟩) NB306_298.out _).trans (((cell_far (p := ⟨gb298, _, none⟩) NB306_298.out _).trans (((cell_far (p := ⟨gb298, _, none⟩) NB306_298.out _).trans (((cell_far (p := ⟨gb298, _, none⟩) NB306_298.out _).trans (hHeld.2.2.1)))))))), ((cell_far (p := ⟨gb298, _, none⟩) NB306_298.out _).trans (((cell_far (p := ⟨gb298, _, none⟩) NB306_298.out _).trans (((cell_far (p := ⟨gb298, _, none⟩) NB306_298.out _).trans (((cell_far (p := ⟨gb298, _, none⟩) NB306_298.out _).trans (hHeld.2.2.2.1)))))))), ((cell_far (p := ⟨gb298, _, none⟩) NB311_298.out _).trans (((cell_far (p := ⟨gb298, _, none⟩) NB311_298.out _).trans (((cell_far (p := ⟨gb298, _, none⟩) NB311_298.out _).trans (((cell_far (p := ⟨gb298, _, none⟩) NB311_298.out _).trans (hHeld.2.2.2.2.1)))))))), ((cell_far (p := ⟨gb298, _, none⟩) NB311_298.out _).trans (((cell_far (p := ⟨gb298, _, none⟩) NB311_298.out _).trans (((cell_far (p := ⟨gb298, _, none⟩) NB311_298.out _).trans (((cell_far (p := ⟨gb298, _, none⟩) NB311_298.out _).trans (hHeld.2.2.2.2.2.1)))))))), ((cell_far (p := ⟨gb298, _, none⟩) NB311_298.out _).trans (((cell_far (p := ⟨gb298, _, none⟩) NB311_298.out _).trans (((cell_far (p := ⟨gb298, _, none⟩) NB311_298.out _).trans (((cell_far (p := ⟨gb298, _, none⟩) NB311_298.out _).trans (hHeld.2.2.2.2.2.2.1)))))))), ((cell_far (p := ⟨gb298, _, none⟩) NB311_298.out _).trans (((cell_far (p := ⟨gb298, _, none⟩) NB311_298.out _).trans (((cell_far (p := ⟨gb298, _, none⟩) NB311_298.out _).trans (((cell_far (p := ⟨gb298, _, none⟩) NB311_298.out _).trans (hHeld.2.2.2.2.2.2.2))))))))⟩ (fun hHeld => ?_)
           clear hK K
           refine done_ (by kernel_rfl) ?_
           try go_wp2
           refine bodyPost_ret (results_cc rfl _ _ gb297 gb298 27 32 #[.int .i64 ji49, .int .i64 0, .slice Ao182 x307002_2.length co182, .slice none 0 0] #[.bool false, .int .i64 (wrap64 (a0_1 - t310)), .int .i64 t316, .int .i64 t317] (0, 0) (0, 0) _ _ rfl (by (with_reducible repeat (first | refine blk_drewN ?_ _ | refine blk_drew ?_ | refine blk_alloc ?_ _)); refine blk_far ?_ NB297_298.out _; (with_reducible repeat (first | refine blk_drewN ?_ _ | refine blk_drew ?_ | refine blk_alloc ?_ _)); refine blk_far ?_ NB297_298.out _; (with_reducible repeat (first | refine blk_drewN ?_ _ | refine blk_drew ?_ | refine blk_alloc ?_ _)); refine blk_far ?_ NB297_298.out _; (with_reducible repeat (first | refine blk_drewN ?_ _ | refine blk_drew ?_ | refine blk_alloc ?_ _)); refine blk_far ?_ NB297_298.out _; (with_reducible repeat (first | refine blk_drewN ?_ _ | refine blk_drew ?_ | refine blk_alloc ?_ _)); refine blk_put (cs := #[.int .i64 ji49, .int .i64 0, .slice Ao182 x307002_2.length co182, .slice none 0 0]) ?_ 3 _ rfl; (with_reducible repeat (first | refine blk_drewN ?_ _ | refine blk_drew ?_ | refine blk_alloc ?_ _)); refine blk_put (cs := #[.int .i64 ji49, .int .i64 0, .slice none 0 0, .slice none 0 0]) ?_ 2 _ rfl; (with_reducible repeat (first | refine blk_drewN ?_ _ | refine blk_drew ?_ | refine blk_alloc ?_ _)); refine blk_put (cs := #[.int .i64 ji49, .int .i64 0, .slice none 0 0, .slice none 0 0]) ?_ 1 _ rfl; (with_reducible repeat (first | refine blk_drewN ?_ _ | refine blk_drew ?_ | refine blk_alloc ?_ _)); refine blk_put (cs := #[.int .i64 0, .int .i64 0, .slice none 0 0, .slice none 0 0]) ?_ 0 _ rfl; (with_reducible repeat (first | refine blk_drewN ?_ _ | refine blk_drew ?_ | refine blk_alloc ?_ _)); exact BK297.out) Try.underlying27 rfl (by kernel_rfl) rfl (by (with_reducible repeat (first | refine blk_drewN ?_ _ | refine blk_drew ?_ | refine blk_alloc ?_ _)); refine blk_put (cs := #[.bool false, .int .i64 (wrap64 (a0_1 - t310)), .int .i64 t316, .int .i64 0]) ?_ 3 _ rfl; (with_reducible repeat (first | refine blk_drewN ?_ _ | refine blk_drew ?_ | refine blk_alloc ?_ _)); refine blk_put (cs := #[.bool false, .int .i64 (wrap64 (a0_1 - t310)), .int .i64 0, .int .i64 0]) ?_ 2 _ rfl; (with_reducible repeat (first | refine blk_drewN ?_ _ | refine blk_drew ?_ | refine blk_alloc ?_ _)); refine blk_put (cs := #[.bool false, .int .i64 0, .int .i64 0, .int .i64 0]) ?_ 1 _ rfl; (with_reducible repeat (first | refine blk_drewN ?_ _ | refine blk_drew ?_ | refine blk_alloc ?_ _)); refine blk_put (cs := #[.bool false, .int .i64 0, .int .i64 0, .int .i64 0]) ?_ 0 _ rfl; (with_reducible repeat (first | refine blk_drewN ?_ _ | refine blk_drew ?_ | refine blk_alloc ?_ _)); refine blk_far ?_ NB298_297.out _; (with_reducible repeat (first | refine blk_drewN ?_ _ | refine blk_drew ?_ | refine blk_alloc ?_ _)); refine blk_far ?_ NB298_297.out _; (with_reducible repeat (first | refine blk_drewN ?_ _ | refine blk_drew ?_ | refine blk_alloc ?_ _)); refine blk_far ?_ NB298_297.out _; (with_reducible repeat (first | refine blk_drewN ?_ _ | refine blk_drew ?_ | refine blk_alloc ?_ _)); refine blk_far ?_ NB298_297.out _; (with_reducible repeat (first | refine blk_drewN ?_ _ | refine blk_drew ?_ | refine blk_alloc ?_ _)); exact BK298.out) Try.underlying32 rfl (by kernel_rfl)) rfl ?_
           exact ⟨_, _, by first | (with_reducible rfl) | (simp only [← hji49, ← hji53]; with_reducible rfl) | (simp only [← hji49, ← hji53]; done) | rfl | (simp [errW_none, errW_some] <;> rfl) | (simp only [← hji49, ← hji53]; first | rfl | (simp [errW_none, errW_some] <;> rfl)) | (simp [*, errW_none, errW_some] <;> rfl), Kd.V_mono (Kd.R_V (by (with_reducible repeat (first | apply Kd.R_alloc | apply Kd.R_drewN | apply Kd.R_drew)); exact Kd.R_mono (Kd.R_far (p := ⟨gb298, 3, none⟩) (Kd.R_far (p := ⟨gb298, 2, none⟩) (Kd.R_far (p := ⟨gb298, 1, none⟩) (Kd.R_far (p := ⟨gb298, 0, none⟩) (Kd.R_far (p := ⟨gb297, 3, none⟩) (Kd.R_far (p := ⟨gb297, 2, none⟩) (Kd.R_far (p := ⟨gb297, 1, none⟩) (Kd.R_far (p := ⟨gb297, 0, none⟩) (Kd.R_types (Kd.R_types HO_307002.out BK297.out (by decide)) BK298.out (by decide)) (fun _ hk => hk.1.2) (.int .i64 ji49)) (fun _ hk => hk.1.2) (.int .i64 0)) (fun _ hk => hk.1.2) (.slice Ao182 x307002_2.length co182)) (fun _ hk => hk.1.2) (.slice none 0 0)) (fun _ hk => hk.2) (.bool false)) (fun _ hk => hk.2) (.int .i64 (wrap64 (a0_1 - t310)))) (fun _ hk => hk.2) (.int .i64 t316)) (fun _ hk => hk.2) (.int .i64 t317)) (fun _ hk => hk.1.1))) (fun k_ hk => by first | exact ⟨(.inr (hk.1)), hk.2⟩ | exact (.inr (hk))), Kd.V_nil _ _ _ _ _, bl HB⟩
     ·rw [if_neg c52] at H
      exact absurd H (by simp)
    ·rw [if_neg c51] at H
     exact absurd H (by simp)

end Go.Proofs.Ytalcmlgkdkbbaaa.Q
