-- Laid by wip/tools/hprint.py, a program of this repo, over the kit's print; not a text of print.sh.
import Derived.Test.YtalcmlgkdkbbaaaQ0
import Derived.Test.YtalcmlgkdkbbaaaQ20
import Derived.Test.YtalcmlgkdkbbaaaQ21
import Derived.Test.YtalcmlgkdkbbaaaQ22
namespace Go.Proofs.Ytalcmlgkdkbbaaa.Q
open Go.RowKit Go.Proofs.Ytalcmlgkdkbbaaa.Zip Go.Proofs.YtalcmlgkdkbbaaaW.PrintWords Go.Proofs.YtalcmlgkdkbbaaaW.PrintLast Go.Proofs.YtalcmlgkdkbbaaaW.PrintMore
attribute [local go_sem] max2_int min2_int max_two min_two max_three min_three max_four min_four   -- for this text's walks alone
set_option linter.unusedVariables false
set_option linter.unusedSimpArgs false

/-! ### sandglassref12_May: function 14 -/
mutual
def sandglassref12_May.j0 : Nat → Bool → Int → Int → Int → Int → Int → Int → List Int → List (S54) → Option (Bool)
  | 0, _, _, _, _, _, _, _, _, _ => none
  | k + 1, x45, x272000, x272001, x272002, x272003, x273000, x273001, x273002, x273003 => if x45 = true then (some false) else (sandglassref12_May.l0 k 0 0 x272000 x272001 x272002 x272003 x273000 x273001 x273002 x273003)
def sandglassref12_May.l0 : Nat → Int → Int → Int → Int → Int → Int → Int → Int → List Int → List (S54) → Option (Bool)
  | 0, _, _, _, _, _, _, _, _, _, _ => none
  | k + 1, x5, x6, x272000, x272001, x272002, x272003, x273000, x273001, x273002, x273003 => if x6 < (x273002.length : Int) then (if 0 ≤ x6 then (if (rd x273002 x6) < 0 then (sandglassref12_May.j2 k x5 x6 true x272000 x272001 x272002 x272003 x273000 x273001 x273002 x273003) else (if (rd x273002 x6) > x272001 then (sandglassref12_May.j2 k x5 x6 true x272000 x272001 x272002 x272003 x273000 x273001 x273002 x273003) else (if (rd x273002 x6) > 0 then ((sandglassref12_number.f x272000 x272001 x272002 x272003 x273000).bind fun t278 => (sandglassref12_May.j2 k x5 x6 (decide (x6 > t278)) x272000 x272001 x272002 x272003 x273000 x273001 x273002 x273003)) else (sandglassref12_May.j2 k x5 x6 false x272000 x272001 x272002 x272003 x273000 x273001 x273002 x273003)))) else (none)) else (some (decide (x5 ≤ x272001)))
def sandglassref12_May.j2 : Nat → Int → Int → Bool → Int → Int → Int → Int → Int → Int → List Int → List (S54) → Option (Bool)
  | 0, _, _, _, _, _, _, _, _, _, _, _ => none
  | k + 1, x5, x6, x84, x272000, x272001, x272002, x272003, x273000, x273001, x273002, x273003 => if x84 = true then (some false) else (if 0 ≤ x6 then (if x6 < (x273002.length : Int) then (sandglassref12_May.l0 k (wrap64 (x5 + (rd x273002 x6))) (wrap64 (x6 + 1)) x272000 x272001 x272002 x272003 x273000 x273001 x273002 x273003) else (none)) else (none))
end
def sandglassref12_May.f (k : Nat) (a0_0 : Int) (a0_1 : Int) (a0_2 : Int) (a0_3 : Int) (a1_0 : Int) (a1_1 : Int) (l1_2 : List Int) (l1_3 : List (S54)) : Option (Bool) := (sandglassref09_Check.f k a0_0 a0_1 a0_2 a0_3).bind fun t273 => (if t273 = 0 then (if a0_0 = 3 then ((sandglassref10_Time.f a1_0).bind fun t274 => (if t274 = true then (if a1_1 = 0 then (if (l1_3.length : Int) = 0 then (if (l1_2.length : Int) = 0 then (sandglassref12_May.j0 k false a0_0 a0_1 a0_2 a0_3 a1_0 a1_1 l1_2 l1_3) else (sandglassref12_May.j0 k ((l1_2.length : Int) != a0_3) a0_0 a0_1 a0_2 a0_3 a1_0 a1_1 l1_2 l1_3)) else (sandglassref12_May.j0 k true a0_0 a0_1 a0_2 a0_3 a1_0 a1_1 l1_2 l1_3)) else (sandglassref12_May.j0 k true a0_0 a0_1 a0_2 a0_3 a1_0 a1_1 l1_2 l1_3)) else (sandglassref12_May.j0 k true a0_0 a0_1 a0_2 a0_3 a1_0 a1_1 l1_2 l1_3))) else (sandglassref12_May.j0 k true a0_0 a0_1 a0_2 a0_3 a1_0 a1_1 l1_2 l1_3)) else (sandglassref12_May.j0 k true a0_0 a0_1 a0_2 a0_3 a1_0 a1_1 l1_2 l1_3))
theorem sandglassref12_May.mono_l : ∀ k, (∀ y0 y1 y2 y3 y4 y5 y6 y7 y8, LeO (sandglassref12_May.j0 k y0 y1 y2 y3 y4 y5 y6 y7 y8) (sandglassref12_May.j0 (k + 1) y0 y1 y2 y3 y4 y5 y6 y7 y8)) ∧ (∀ y0 y1 y2 y3 y4 y5 y6 y7 y8 y9, LeO (sandglassref12_May.l0 k y0 y1 y2 y3 y4 y5 y6 y7 y8 y9) (sandglassref12_May.l0 (k + 1) y0 y1 y2 y3 y4 y5 y6 y7 y8 y9)) ∧ (∀ y0 y1 y2 y3 y4 y5 y6 y7 y8 y9 y10, LeO (sandglassref12_May.j2 k y0 y1 y2 y3 y4 y5 y6 y7 y8 y9 y10) (sandglassref12_May.j2 (k + 1) y0 y1 y2 y3 y4 y5 y6 y7 y8 y9 y10))
  | 0 => ⟨fun _ _ _ _ _ _ _ _ _ r h => by simp [sandglassref12_May.j0] at h, fun _ _ _ _ _ _ _ _ _ _ r h => by simp [sandglassref12_May.l0] at h, fun _ _ _ _ _ _ _ _ _ _ _ r h => by simp [sandglassref12_May.j2] at h⟩
  | k + 1 => by
    obtain ⟨ih0, ih1, ih2⟩ := sandglassref12_May.mono_l k
    refine ⟨?_, ?_, ?_⟩
    · intro y0 y1 y2 y3 y4 y5 y6 y7 y8
      unfold sandglassref12_May.j0
      repeat' first
      | (with_reducible exact ih0 _ _ _ _ _ _ _ _ _)
      | (with_reducible exact ih1 _ _ _ _ _ _ _ _ _ _)
      | (with_reducible exact ih2 _ _ _ _ _ _ _ _ _ _ _)
      | (with_reducible exact sandglassref09_Check.mono _ _ _ _ _)
      | (with_reducible exact LeO.refl _)
      | (with_reducible exact LeO.none _)
      | (with_reducible refine LeO.ite ?_ ?_)
      | (with_reducible refine LeO.bind ?_ (fun _ => ?_))
      | exact ih0 _ _ _ _ _ _ _ _ _
      | exact ih1 _ _ _ _ _ _ _ _ _ _
      | exact ih2 _ _ _ _ _ _ _ _ _ _ _
      | exact sandglassref09_Check.mono _ _ _ _ _
      | exact LeO.none _
      | refine LeO.ite ?_ ?_
      | refine LeO.bind ?_ (fun _ => ?_)
    · intro y0 y1 y2 y3 y4 y5 y6 y7 y8 y9
      unfold sandglassref12_May.l0
      repeat' first
      | (with_reducible exact ih0 _ _ _ _ _ _ _ _ _)
      | (with_reducible exact ih1 _ _ _ _ _ _ _ _ _ _)
      | (with_reducible exact ih2 _ _ _ _ _ _ _ _ _ _ _)
      | (with_reducible exact sandglassref09_Check.mono _ _ _ _ _)
      | (with_reducible exact LeO.refl _)
      | (with_reducible exact LeO.none _)
      | (with_reducible refine LeO.ite ?_ ?_)
      | (with_reducible refine LeO.bind ?_ (fun _ => ?_))
      | exact ih0 _ _ _ _ _ _ _ _ _
      | exact ih1 _ _ _ _ _ _ _ _ _ _
      | exact ih2 _ _ _ _ _ _ _ _ _ _ _
      | exact sandglassref09_Check.mono _ _ _ _ _
      | exact LeO.none _
      | refine LeO.ite ?_ ?_
      | refine LeO.bind ?_ (fun _ => ?_)
    · intro y0 y1 y2 y3 y4 y5 y6 y7 y8 y9 y10
      unfold sandglassref12_May.j2
      repeat' first
      | (with_reducible exact ih0 _ _ _ _ _ _ _ _ _)
      | (with_reducible exact ih1 _ _ _ _ _ _ _ _ _ _)
      | (with_reducible exact ih2 _ _ _ _ _ _ _ _ _ _ _)
      | (with_reducible exact sandglassref09_Check.mono _ _ _ _ _)
      | (with_reducible exact LeO.refl _)
      | (with_reducible exact LeO.none _)
      | (with_reducible refine LeO.ite ?_ ?_)
      | (with_reducible refine LeO.bind ?_ (fun _ => ?_))
      | exact ih0 _ _ _ _ _ _ _ _ _
      | exact ih1 _ _ _ _ _ _ _ _ _ _
      | exact ih2 _ _ _ _ _ _ _ _ _ _ _
      | exact sandglassref09_Check.mono _ _ _ _ _
      | exact LeO.none _
      | refine LeO.ite ?_ ?_
      | refine LeO.bind ?_ (fun _ => ?_)
theorem sandglassref12_May.mono : ∀ a0 a1 a2 a3 a4 a5 a6 a7 k, LeO (sandglassref12_May.f k a0 a1 a2 a3 a4 a5 a6 a7) (sandglassref12_May.f (k + 1) a0 a1 a2 a3 a4 a5 a6 a7) := by
  intro a0 a1 a2 a3 a4 a5 a6 a7 k
  obtain ⟨ih0, ih1, ih2⟩ := sandglassref12_May.mono_l k
  unfold sandglassref12_May.f
  repeat' first
      | (with_reducible exact ih0 _ _ _ _ _ _ _ _ _)
      | (with_reducible exact ih1 _ _ _ _ _ _ _ _ _ _)
      | (with_reducible exact ih2 _ _ _ _ _ _ _ _ _ _ _)
      | (with_reducible exact sandglassref09_Check.mono _ _ _ _ _)
      | (with_reducible exact LeO.refl _)
      | (with_reducible exact LeO.none _)
      | (with_reducible refine LeO.ite ?_ ?_)
      | (with_reducible refine LeO.bind ?_ (fun _ => ?_))
      | exact ih0 _ _ _ _ _ _ _ _ _
      | exact ih1 _ _ _ _ _ _ _ _ _ _
      | exact ih2 _ _ _ _ _ _ _ _ _ _ _
      | exact sandglassref09_Check.mono _ _ _ _ _
      | exact LeO.none _
      | refine LeO.ite ?_ ?_
      | refine LeO.bind ?_ (fun _ => ?_)
def sandglassref12_May.T7 : Bool × List (List Nat × List Nat) := (true, [([], []), ([0], [0]), ([], []), ([1, 2], [1, 2]), ([3], [3]), ([4], [4]), ([5], [5]), ([6], [6]), ([7, 6], [6, 7]), ([6], [6]), ([8, 9, 6], [6, 8, 9]), ([10, 6], [6, 10]), ([6], [6]), ([12, 6], [6, 12]), ([11, 13, 6], [6, 11, 13]), ([6, 14], [6, 14]), ([15, 6], [15]), ([16], [16]), ([17, 16], [16, 17]), ([16], [16]), ([18, 19, 16], [16, 18, 19]), ([20, 16], [16, 20]), ([21, 16], [16, 21]), ([22, 16, 16], [16, 22]), ([23], [23]), ([23], [23]), ([23], [23]), ([26, 23], [23, 26]), ([25, 27, 23, 23], [23, 25, 27]), ([24, 28, 23], [23, 24, 28]), ([23, 29, 16], [16, 23, 29]), ([16, 30], [16, 30])])
def sandglassref12_May.B7 : List Nat := [0, 1, 0, 7, 15, 31, 63, 127, 255, 127, 1023, 2047, 127, 4223, 16383, 32767, 65535, 131071, 262143, 131071, 1048575, 2097151, 4194303, 8388607, 16777215, 16777215, 16777215, 83886079, 251658239, 536870911, 1073741823, 2147483647]
theorem sandglassref12_May.tab7 : rtab .any (opsOf Try.f14 7) = sandglassref12_May.T7 := by kernel_rfl
theorem sandglassref12_May.bits7 : waitsOk sandglassref12_May.T7.2 sandglassref12_May.B7 = true := by kernel_rfl
set_option maxHeartbeats 8000000 in
set_option maxRecDepth 100000 in
theorem sandglassref12_May.calls (k : Nat) (a0_0 : Int) (a0_1 : Int) (a0_2 : Int) (a0_3 : Int) (a1_0 : Int) (a1_1 : Int) (A1_2 : Option Addr) (c1_2 : Nat) (l1_2 : List Int) (A1_3 : Option Addr) (c1_3 : Nat) (l1_3 : List (S54)) (r : Bool) (w : World) (hr1_2 : Kd.C (Kd.int .i64) w A1_2 l1_2.length l1_2) (hc1_2 : l1_2.length ≤ c1_2) (hr1_3 : Kd.C k54 w A1_3 l1_3.length l1_3) (hc1_3 : l1_3.length ≤ c1_3) (h : sandglassref12_May.f k a0_0 a0_1 a0_2 a0_3 a1_0 a1_1 l1_2 l1_3 = some r) :
  Calls Try.prog 14 #[.agg #[.int .i64 a0_0, .int .i64 a0_1, .int .i64 a0_2, .int .i64 a0_3], .agg #[.int .i64 a1_0, .int .i64 a1_1, .slice A1_2 l1_2.length c1_2, .slice A1_3 l1_3.length c1_3]] w fun e w' => e = .returned (.bool r) ∧ Below w.heap.size w w' := by
 have hu23 := Try.underlying23
 have hu27 := Try.underlying27
 have HR1_2 := Aside0.mk hr1_2
 have HC1_2 := Aside0.mk hc1_2
 clear hr1_2 hc1_2
 have HR1_3 := Aside0.mk hr1_3
 have HC1_3 := Aside0.mk hc1_3
 clear hr1_3 hc1_3
 have HB := Aside0.mk (Below.refl w.heap.size w)
 have H : ((sandglassref09_Check.f k a0_0 a0_1 a0_2 a0_3).bind fun t273 => (if t273 = 0 then (if a0_0 = 3 then ((sandglassref10_Time.f a1_0).bind fun t274 => (if t274 = true then (if a1_1 = 0 then (if (l1_3.length : Int) = 0 then (if (l1_2.length : Int) = 0 then (sandglassref12_May.j0 k false a0_0 a0_1 a0_2 a0_3 a1_0 a1_1 l1_2 l1_3) else (sandglassref12_May.j0 k ((l1_2.length : Int) != a0_3) a0_0 a0_1 a0_2 a0_3 a1_0 a1_1 l1_2 l1_3)) else (sandglassref12_May.j0 k true a0_0 a0_1 a0_2 a0_3 a1_0 a1_1 l1_2 l1_3)) else (sandglassref12_May.j0 k true a0_0 a0_1 a0_2 a0_3 a1_0 a1_1 l1_2 l1_3)) else (sandglassref12_May.j0 k true a0_0 a0_1 a0_2 a0_3 a1_0 a1_1 l1_2 l1_3))) else (sandglassref12_May.j0 k true a0_0 a0_1 a0_2 a0_3 a1_0 a1_1 l1_2 l1_3)) else (sandglassref12_May.j0 k true a0_0 a0_1 a0_2 a0_3 a1_0 a1_1 l1_2 l1_3))) = some r := h
 clear h
 have HC3 := Aside0.mk H
 clear H
 go_enter Try.func14, Try.ntmps14
 go_upto_region 1 with (first | ((with_reducible refine gate_dst (N := 2) rfl ?_); (try (refine gate_guard (by rfl) ?_; dsimp only)); refine box_event ?hg (N := 2) ?hd (cs := #[.int .i64 a0_0, .int .i64 a0_1, .int .i64 a0_2, .int .i64 a0_3]) (t := 23) ?hr ?_; (case hd => rfl); (case hg => rfl); (case hr => first | (go_simp; done) | (go_simp; rfl)); intro gb271 hg w4 hbox hb; have BK271 := Aside0.mk (hbox); have GW271 := Aside0.mk ((by rw [hg]; exact (below_size (bl HB)) : w.heap.size ≤ gb271)); have GE271 := Aside0.mk ((by rw [hg]; exact (below_size (bl HB)) : w.heap.size ≤ gb271)); replace HB := Aside0.mk (below_step (bl HB) hb); clear hb hbox hg) | ((with_reducible refine gate_dst (N := 3) rfl ?_); (try (refine gate_guard (by rfl) ?_; dsimp only)); refine box_event ?hg (N := 3) ?hd (cs := #[.int .i64 a1_0, .int .i64 a1_1, .slice A1_2 l1_2.length c1_2, .slice A1_3 l1_3.length c1_3]) (t := 27) ?hr ?_; (case hd => rfl); (case hg => rfl); (case hr => first | (go_simp; done) | (go_simp; rfl)); intro gb272 hg w5 hbox hb; have BK272 := Aside0.mk (hbox); have GW272 := Aside0.mk ((by rw [hg]; exact (below_size (bl HB)) : w.heap.size ≤ gb272)); have GE272 := Aside0.mk ((by rw [hg]; exact (below_size (bl HB)) : w.heap.size ≤ gb272)); have NB271_272 := nb BK271 hg; have NB272_271 := bn BK271 hg; replace BK271 := Aside0.mk (blk_below (bo BK271) hb); replace HB := Aside0.mk (below_step (bl HB) hb); clear hb hbox hg))
 (try simp only [Act.put, List.setIfInBounds_toArray, List.set_cons_zero, List.set_cons_succ])
 go_cut [45] (fun v45 wc => ∃ (kq : Nat) (x45_2 : Bool), v45 = .bool x45_2 ∧ Aside0 (sandglassref12_May.j0 kq x45_2 a0_0 a0_1 a0_2 a0_3 a1_0 a1_1 l1_2 l1_3 = some r) ∧ Aside0 (kq ≤ k) ∧ Aside0 (wc.heap[gb271]? = some (.cells #[.int .i64 a0_0, .int .i64 a0_1, .int .i64 a0_2, .int .i64 a0_3] 23 (0, 0))) ∧ Aside0 (wc.heap[gb272]? = some (.cells #[.int .i64 a1_0, .int .i64 a1_1, (.slice A1_2 l1_2.length c1_2), (.slice A1_3 l1_3.length c1_3)] 27 (0, 0))) ∧ Aside0 (Below w.heap.size w wc))
 case first =>
  have H := HC3.out
  clear HC3
  replace H := Option.bind_eq_some_iff.mp H
  obtain ⟨t273, A60, H⟩ := H
  have A6 := Aside0.mk A60
  clear A60
  by_cases c7 : t273 = 0
  ·rw [if_pos c7] at H
   have c7b0 : (t273 == 0) = true := beq_iff_eq.mpr c7
   have c7b1 : (t273 != 0) = false := bne_eq_false_iff_eq.mpr c7
   clear c7
   (first | rw [c7b0] | (simp only [i64_w, i32_w]; rw [c7b0]) | skip)
   by_cases c8 : a0_0 = 3
   ·rw [if_pos c8] at H
    have c8b0 : (a0_0 == 3) = true := beq_iff_eq.mpr c8
    have c8b1 : (a0_0 != 3) = false := bne_eq_false_iff_eq.mpr c8
    clear c8
    replace H := Option.bind_eq_some_iff.mp H
    obtain ⟨t274, A90, H⟩ := H
    have A9 := Aside0.mk A90
    clear A90
    by_cases c10 : t274 = true
    ·subst c10
     rw [if_pos rfl] at H
     by_cases c11 : a1_1 = 0
     ·rw [if_pos c11] at H
      have c11b0 : (a1_1 == 0) = true := beq_iff_eq.mpr c11
      have c11b1 : (a1_1 != 0) = false := bne_eq_false_iff_eq.mpr c11
      clear c11
      by_cases c12 : (l1_3.length : Int) = 0
      ·rw [if_pos c12] at H
       have c12b0 : ((l1_3.length : Int) == 0) = true := beq_iff_eq.mpr c12
       have c12b1 : ((l1_3.length : Int) != 0) = false := bne_eq_false_iff_eq.mpr c12
       clear c12
       by_cases c13 : (l1_2.length : Int) = 0
       ·rw [if_pos c13] at H
        have c13b0 : ((l1_2.length : Int) == 0) = true := beq_iff_eq.mpr c13
        have c13b1 : ((l1_2.length : Int) != 0) = false := bne_eq_false_iff_eq.mpr c13
        clear c13
        have H' := Aside0.mk H
        clear H
        have hnb14 := NB271_272.out
        have hnc14 := NB272_271.out
        obtain ⟨hcz15_0, hcz15_1, hcz15_2, hcz15_3⟩ := ce4 BK271
        obtain ⟨hfz15_0, hfz15_1, hfz15_2, hfz15_3⟩ := fr4 BK271
        go_wp2_with (first | ((with_reducible refine gate_callee (f := 20) rfl ?_); refine goesL_ (some 8) rfl rfl Try.func20 (by kernel_rfl) rfl #[.agg #[.int .i64 a0_0, .int .i64 a0_1, .int .i64 a0_2, .int .i64 a0_3]] rfl (by (try simp only [List.map_toArray, List.map_cons, List.map_nil]); first | done | rfl | (simp only [List.length_drop, List.length_take]; rfl)) ?_; (with_reducible refine (sandglassref09_Check.calls k a0_0 a0_1 a0_2 a0_3 t273 _ A6.out).mono ?_); rintro e w16 ⟨rfl, hb⟩; refine ⟨_, rfl, ?_⟩; replace BK271 := Aside0.mk (blk_below (bo BK271) hb); replace BK272 := Aside0.mk (blk_below (bo BK272) hb); replace HB := Aside0.mk (below_step (bl HB) hb); (try clear hb); (try clear hb2); (try clear hk); (try clear hi); obtain ⟨hcz17_0, hcz17_1, hcz17_2, hcz17_3⟩ := ce4 BK271; obtain ⟨hfz17_0, hfz17_1, hfz17_2, hfz17_3⟩ := fr4 BK271; obtain ⟨hcz18_0, hcz18_1, hcz18_2, hcz18_3⟩ := ce4 BK272; obtain ⟨hfz18_0, hfz18_1, hfz18_2, hfz18_3⟩ := fr4 BK272) | (go_at_call 27; (with_reducible refine (sandglassref10_Time.calls a1_0 true _ A9.out).mono ?_); rintro e w' ⟨rfl, ⟨nd, rfl⟩⟩))
        go_meet
        case rel => exact ⟨_, (false), (by first | (with_reducible rfl) | rfl | (simp; done) | (simp [*]; done)), H', ⟨by first | omega | exact Nat.le_refl _⟩, ⟨bo BK271⟩, ⟨bo BK272⟩, ⟨bl HB⟩⟩
       ·rw [if_neg c13] at H
        have c13b0 : ((l1_2.length : Int) == 0) = false := beq_eq_false_iff_ne.mpr c13
        have c13b1 : ((l1_2.length : Int) != 0) = true := bne_iff_ne.mpr c13
        have c13b2 : ¬ (l1_2 = []) := fun h_ => c13 (by rw [h_]; rfl)
        have H' := Aside0.mk H
        clear H
        have hnb19 := NB271_272.out
        have hnc19 := NB272_271.out
        obtain ⟨hcz20_0, hcz20_1, hcz20_2, hcz20_3⟩ := ce4 BK271
        obtain ⟨hfz20_0, hfz20_1, hfz20_2, hfz20_3⟩ := fr4 BK271
        go_wp2_with (first | ((with_reducible refine gate_callee (f := 20) rfl ?_); refine goesL_ (some 8) rfl rfl Try.func20 (by kernel_rfl) rfl #[.agg #[.int .i64 a0_0, .int .i64 a0_1, .int .i64 a0_2, .int .i64 a0_3]] rfl (by (try simp only [List.map_toArray, List.map_cons, List.map_nil]); first | done | rfl | (simp only [List.length_drop, List.length_take]; rfl)) ?_; (with_reducible refine (sandglassref09_Check.calls k a0_0 a0_1 a0_2 a0_3 t273 _ A6.out).mono ?_); rintro e w21 ⟨rfl, hb⟩; refine ⟨_, rfl, ?_⟩; replace BK271 := Aside0.mk (blk_below (bo BK271) hb); replace BK272 := Aside0.mk (blk_below (bo BK272) hb); replace HB := Aside0.mk (below_step (bl HB) hb); (try clear hb); (try clear hb2); (try clear hk); (try clear hi); obtain ⟨hcz22_0, hcz22_1, hcz22_2, hcz22_3⟩ := ce4 BK271; obtain ⟨hfz22_0, hfz22_1, hfz22_2, hfz22_3⟩ := fr4 BK271; obtain ⟨hcz23_0, hcz23_1, hcz23_2, hcz23_3⟩ := ce4 BK272; obtain ⟨hfz23_0, hfz23_1, hfz23_2, hfz23_3⟩ := fr4 BK272) | (go_at_call 27; (with_reducible refine (sandglassref10_Time.calls a1_0 true _ A9.out).mono ?_); rintro e w' ⟨rfl, ⟨nd, rfl⟩⟩))
        go_meet
        case rel => exact ⟨_, (((l1_2.length : Int) != a0_3)), (by first | (with_reducible rfl) | rfl | (simp; done) | (simp [*]; done)), H', ⟨by first | omega | exact Nat.le_refl _⟩, ⟨bo BK271⟩, ⟨bo BK272⟩, ⟨bl HB⟩⟩
      ·rw [if_neg c12] at H
       have c12b0 : ((l1_3.length : Int) == 0) = false := beq_eq_false_iff_ne.mpr c12
       have c12b1 : ((l1_3.length : Int) != 0) = true := bne_iff_ne.mpr c12
       have c12b2 : ¬ (l1_3 = []) := fun h_ => c12 (by rw [h_]; rfl)
       have H' := Aside0.mk H
       clear H
       have hnb24 := NB271_272.out
       have hnc24 := NB272_271.out
       obtain ⟨hcz25_0, hcz25_1, hcz25_2, hcz25_3⟩ := ce4 BK271
       obtain ⟨hfz25_0, hfz25_1, hfz25_2, hfz25_3⟩ := fr4 BK271
       go_wp2_with (first | ((with_reducible refine gate_callee (f := 20) rfl ?_); refine goesL_ (some 8) rfl rfl Try.func20 (by kernel_rfl) rfl #[.agg #[.int .i64 a0_0, .int .i64 a0_1, .int .i64 a0_2, .int .i64 a0_3]] rfl (by (try simp only [List.map_toArray, List.map_cons, List.map_nil]); first | done | rfl | (simp only [List.length_drop, List.length_take]; rfl)) ?_; (with_reducible refine (sandglassref09_Check.calls k a0_0 a0_1 a0_2 a0_3 t273 _ A6.out).mono ?_); rintro e w26 ⟨rfl, hb⟩; refine ⟨_, rfl, ?_⟩; replace BK271 := Aside0.mk (blk_below (bo BK271) hb); replace BK272 := Aside0.mk (blk_below (bo BK272) hb); replace HB := Aside0.mk (below_step (bl HB) hb); (try clear hb); (try clear hb2); (try clear hk); (try clear hi); obtain ⟨hcz27_0, hcz27_1, hcz27_2, hcz27_3⟩ := ce4 BK271; obtain ⟨hfz27_0, hfz27_1, hfz27_2, hfz27_3⟩ := fr4 BK271; obtain ⟨hcz28_0, hcz28_1, hcz28_2, hcz28_3⟩ := ce4 BK272; obtain ⟨hfz28_0, hfz28_1, hfz28_2, hfz28_3⟩ := fr4 BK272) | (go_at_call 27; (with_reducible refine (sandglassref10_Time.calls a1_0 true _ A9.out).mono ?_); rintro e w' ⟨rfl, ⟨nd, rfl⟩⟩))
       go_meet
       case rel => exact ⟨_, (true), (by first | (with_reducible rfl) | rfl | (simp; done) | (simp [*]; done)), H', ⟨by first | omega | exact Nat.le_refl _⟩, ⟨bo BK271⟩, ⟨bo BK272⟩, ⟨bl HB⟩⟩
     ·rw [if_neg c11] at H
      have c11b0 : (a1_1 == 0) = false := beq_eq_false_iff_ne.mpr c11
      have c11b1 : (a1_1 != 0) = true := bne_iff_ne.mpr c11
      have H' := Aside0.mk H
      clear H
      have hnb29 := NB271_272.out
      have hnc29 := NB272_271.out
      obtain ⟨hcz30_0, hcz30_1, hcz30_2, hcz30_3⟩ := ce4 BK271
      obtain ⟨hfz30_0, hfz30_1, hfz30_2, hfz30_3⟩ := fr4 BK271
      go_wp2_with (first | ((with_reducible refine gate_callee (f := 20) rfl ?_); refine goesL_ (some 8) rfl rfl Try.func20 (by kernel_rfl) rfl #[.agg #[.int .i64 a0_0, .int .i64 a0_1, .int .i64 a0_2, .int .i64 a0_3]] rfl (by (try simp only [List.map_toArray, List.map_cons, List.map_nil]); first | done | rfl | (simp only [List.length_drop, List.length_take]; rfl)) ?_; (with_reducible refine (sandglassref09_Check.calls k a0_0 a0_1 a0_2 a0_3 t273 _ A6.out).mono ?_); rintro e w31 ⟨rfl, hb⟩; refine ⟨_, rfl, ?_⟩; replace BK271 := Aside0.mk (blk_below (bo BK271) hb); replace BK272 := Aside0.mk (blk_below (bo BK272) hb); replace HB := Aside0.mk (below_step (bl HB) hb); (try clear hb); (try clear hb2); (try clear hk); (try clear hi); obtain ⟨hcz32_0, hcz32_1, hcz32_2, hcz32_3⟩ := ce4 BK271; obtain ⟨hfz32_0, hfz32_1, hfz32_2, hfz32_3⟩ := fr4 BK271; obtain ⟨hcz33_0, hcz33_1, hcz33_2, hcz33_3⟩ := ce4 BK272; obtain ⟨hfz33_0, hfz33_1, hfz33_2, hfz33_3⟩ := fr4 BK272) | (go_at_call 27; (with_reducible refine (sandglassref10_Time.calls a1_0 true _ A9.out).mono ?_); rintro e w' ⟨rfl, ⟨nd, rfl⟩⟩))
      go_meet
      case rel => exact ⟨_, (true), (by first | (with_reducible rfl) | rfl | (simp; done) | (simp [*]; done)), H', ⟨by first | omega | exact Nat.le_refl _⟩, ⟨bo BK271⟩, ⟨bo BK272⟩, ⟨bl HB⟩⟩
    ·replace c10 := Bool.eq_false_iff.mpr c10
     subst c10
     rw [if_neg (show ¬ (false = true) by decide)] at H
     have H' := Aside0.mk H
     clear H
     have hnb34 := NB271_272.out
     have hnc34 := NB272_271.out
     obtain ⟨hcz35_0, hcz35_1, hcz35_2, hcz35_3⟩ := ce4 BK271
     obtain ⟨hfz35_0, hfz35_1, hfz35_2, hfz35_3⟩ := fr4 BK271
     go_wp2_with (first | ((with_reducible refine gate_callee (f := 20) rfl ?_); refine goesL_ (some 8) rfl rfl Try.func20 (by kernel_rfl) rfl #[.agg #[.int .i64 a0_0, .int .i64 a0_1, .int .i64 a0_2, .int .i64 a0_3]] rfl (by (try simp only [List.map_toArray, List.map_cons, List.map_nil]); first | done | rfl | (simp only [List.length_drop, List.length_take]; rfl)) ?_; (with_reducible refine (sandglassref09_Check.calls k a0_0 a0_1 a0_2 a0_3 t273 _ A6.out).mono ?_); rintro e w36 ⟨rfl, hb⟩; refine ⟨_, rfl, ?_⟩; replace BK271 := Aside0.mk (blk_below (bo BK271) hb); replace BK272 := Aside0.mk (blk_below (bo BK272) hb); replace HB := Aside0.mk (below_step (bl HB) hb); (try clear hb); (try clear hb2); (try clear hk); (try clear hi); obtain ⟨hcz37_0, hcz37_1, hcz37_2, hcz37_3⟩ := ce4 BK271; obtain ⟨hfz37_0, hfz37_1, hfz37_2, hfz37_3⟩ := fr4 BK271; obtain ⟨hcz38_0, hcz38_1, hcz38_2, hcz38_3⟩ := ce4 BK272; obtain ⟨hfz38_0, hfz38_1, hfz38_2, hfz38_3⟩ := fr4 BK272) | (go_at_call 27; (with_reducible refine (sandglassref10_Time.calls a1_0 false _ A9.out).mono ?_); rintro e w' ⟨rfl, ⟨nd, rfl⟩⟩))
     go_meet
     case rel => exact ⟨_, (true), (by first | (with_reducible rfl) | rfl | (simp; done) | (simp [*]; done)), H', ⟨by first | omega | exact Nat.le_refl _⟩, ⟨bo BK271⟩, ⟨bo BK272⟩, ⟨bl HB⟩⟩
   ·rw [if_neg c8] at H
    have c8b0 : (a0_0 == 3) = false := beq_eq_false_iff_ne.mpr c8
    have c8b1 : (a0_0 != 3) = true := bne_iff_ne.mpr c8
    have H' := Aside0.mk H
    clear H
    have hnb39 := NB271_272.out
    have hnc39 := NB272_271.out
    obtain ⟨hcz40_0, hcz40_1, hcz40_2, hcz40_3⟩ := ce4 BK271
    obtain ⟨hfz40_0, hfz40_1, hfz40_2, hfz40_3⟩ := fr4 BK271
    go_wp2_with (first | ((with_reducible refine gate_callee (f := 20) rfl ?_); refine goesL_ (some 8) rfl rfl Try.func20 (by kernel_rfl) rfl #[.agg #[.int .i64 a0_0, .int .i64 a0_1, .int .i64 a0_2, .int .i64 a0_3]] rfl (by (try simp only [List.map_toArray, List.map_cons, List.map_nil]); first | done | rfl | (simp only [List.length_drop, List.length_take]; rfl)) ?_; (with_reducible refine (sandglassref09_Check.calls k a0_0 a0_1 a0_2 a0_3 t273 _ A6.out).mono ?_); rintro e w41 ⟨rfl, hb⟩; refine ⟨_, rfl, ?_⟩; replace BK271 := Aside0.mk (blk_below (bo BK271) hb); replace BK272 := Aside0.mk (blk_below (bo BK272) hb); replace HB := Aside0.mk (below_step (bl HB) hb); (try clear hb); (try clear hb2); (try clear hk); (try clear hi); obtain ⟨hcz42_0, hcz42_1, hcz42_2, hcz42_3⟩ := ce4 BK271; obtain ⟨hfz42_0, hfz42_1, hfz42_2, hfz42_3⟩ := fr4 BK271))
    go_meet
    case rel => exact ⟨_, (true), (by first | (with_reducible rfl) | rfl | (simp; done) | (simp [*]; done)), H', ⟨by first | omega | exact Nat.le_refl _⟩, ⟨bo BK271⟩, ⟨bo BK272⟩, ⟨bl HB⟩⟩
  ·rw [if_neg c7] at H
   have c7b0 : (t273 == 0) = false := beq_eq_false_iff_ne.mpr c7
   have c7b1 : (t273 != 0) = true := bne_iff_ne.mpr c7
   (first | rw [c7b0] | (simp only [i64_w, i32_w]; rw [c7b0]) | skip)
   have H' := Aside0.mk H
   clear H
   have hnb43 := NB271_272.out
   have hnc43 := NB272_271.out
   obtain ⟨hcz44_0, hcz44_1, hcz44_2, hcz44_3⟩ := ce4 BK271
   obtain ⟨hfz44_0, hfz44_1, hfz44_2, hfz44_3⟩ := fr4 BK271
   go_wp2_with (first | ((with_reducible refine gate_callee (f := 20) rfl ?_); refine goesL_ (some 8) rfl rfl Try.func20 (by kernel_rfl) rfl #[.agg #[.int .i64 a0_0, .int .i64 a0_1, .int .i64 a0_2, .int .i64 a0_3]] rfl (by (try simp only [List.map_toArray, List.map_cons, List.map_nil]); first | done | rfl | (simp only [List.length_drop, List.length_take]; rfl)) ?_; (with_reducible refine (sandglassref09_Check.calls k a0_0 a0_1 a0_2 a0_3 t273 _ A6.out).mono ?_); rintro e w45 ⟨rfl, hb⟩; refine ⟨_, rfl, ?_⟩; replace BK271 := Aside0.mk (blk_below (bo BK271) hb); replace BK272 := Aside0.mk (blk_below (bo BK272) hb); replace HB := Aside0.mk (below_step (bl HB) hb); (try clear hb); (try clear hb2); (try clear hk); (try clear hi)))
   go_meet
   case rel => exact ⟨_, (true), (by first | (with_reducible rfl) | rfl | (simp; done) | (simp [*]; done)), H', ⟨by first | omega | exact Nat.le_refl _⟩, ⟨bo BK271⟩, ⟨bo BK272⟩, ⟨bl HB⟩⟩
 case rest =>
  clear HC3
  try clear c7; try clear c7b0; try clear c7b1; try clear c8; try clear c8b0; try clear c8b1; try clear c10; try clear c11; try clear c11b0; try clear c11b1; try clear c12; try clear c12b0; try clear c12b1; try clear c12b2; try clear c13; try clear c13b0; try clear c13b1; try clear c13b2; try clear hcz15_0; try clear hcz15_1; try clear hcz15_2; try clear hcz15_3; try clear hcz17_0; try clear hcz17_1; try clear hcz17_2; try clear hcz17_3; try clear hcz18_0; try clear hcz18_1; try clear hcz18_2; try clear hcz18_3; try clear hcz20_0; try clear hcz20_1; try clear hcz20_2; try clear hcz20_3; try clear hcz22_0; try clear hcz22_1; try clear hcz22_2; try clear hcz22_3; try clear hcz23_0; try clear hcz23_1; try clear hcz23_2; try clear hcz23_3; try clear hcz25_0; try clear hcz25_1; try clear hcz25_2; try clear hcz25_3; try clear hcz27_0; try clear hcz27_1; try clear hcz27_2; try clear hcz27_3; try clear hcz28_0; try clear hcz28_1; try clear hcz28_2; try clear hcz28_3; try clear hcz30_0; try clear hcz30_1; try clear hcz30_2; try clear hcz30_3; try clear hcz32_0; try clear hcz32_1; try clear hcz32_2; try clear hcz32_3; try clear hcz33_0; try clear hcz33_1; try clear hcz33_2; try clear hcz33_3; try clear hcz35_0; try clear hcz35_1; try clear hcz35_2; try clear hcz35_3; try clear hcz37_0; try clear hcz37_1; try clear hcz37_2; try clear hcz37_3; try clear hcz38_0; try clear hcz38_1; try clear hcz38_2; try clear hcz38_3; try clear hcz40_0; try clear hcz40_1; try clear hcz40_2; try clear hcz40_3; try clear hcz42_0; try clear hcz42_1; try clear hcz42_2; try clear hcz42_3; try clear hcz44_0; try clear hcz44_1; try clear hcz44_2; try clear hcz44_3; try clear hfz15_0; try clear hfz15_1; try clear hfz15_2; try clear hfz15_3; try clear hfz17_0; try clear hfz17_1; try clear hfz17_2; try clear hfz17_3; try clear hfz18_0; try clear hfz18_1; try clear hfz18_2; try clear hfz18_3; try clear hfz20_0; try clear hfz20_1; try clear hfz20_2; try clear hfz20_3; try clear hfz22_0; try clear hfz22_1; try clear hfz22_2; try clear hfz22_3; try clear hfz23_0; try clear hfz23_1; try clear hfz23_2; try clear hfz23_3; try clear hfz25_0; try clear hfz25_1; try clear hfz25_2; try clear hfz25_3; try clear hfz27_0; try clear hfz27_1; try clear hfz27_2; try clear hfz27_3; try clear hfz28_0; try clear hfz28_1; try clear hfz28_2; try clear hfz28_3; try clear hfz30_0; try clear hfz30_1; try clear hfz30_2; try clear hfz30_3; try clear hfz32_0; try clear hfz32_1; try clear hfz32_2; try clear hfz32_3; try clear hfz33_0; try clear hfz33_1; try clear hfz33_2; try clear hfz33_3; try clear hfz35_0; try clear hfz35_1; try clear hfz35_2; try clear hfz35_3; try clear hfz37_0; try clear hfz37_1; try clear hfz37_2; try clear hfz37_3; try clear hfz38_0; try clear hfz38_1; try clear hfz38_2; try clear hfz38_3; try clear hfz40_0; try clear hfz40_1; try clear hfz40_2; try clear hfz40_3; try clear hfz42_0; try clear hfz42_1; try clear hfz42_2; try clear hfz42_3; try clear hfz44_0; try clear hfz44_1; try clear hfz44_2; try clear hfz44_3
  obtain ⟨kq, x45_2, rfl, HA, HJ2, BK271, BK272, HB⟩ := hcut
  cases kq with
  | zero => exact absurd HA.out (by simp [sandglassref12_May.j0])
  | succ kj2 =>
   have H := HA.out
   clear HA
   simp only [sandglassref12_May.j0] at H
   by_cases c46 : x45_2 = true
   ·subst c46
    rw [if_pos rfl] at H
    obtain rfl := Option.some.inj H
    go_wp2
    go_ret
    exact ⟨by first | (with_reducible rfl) | rfl | (simp [errW_none, errW_some] <;> rfl) | (simp [*, errW_none, errW_some] <;> rfl), bl HB⟩
   ·replace c46 := Bool.eq_false_iff.mpr c46
    subst c46
    rw [if_neg (show ¬ (false = true) by decide)] at H
    have H' := Aside0.mk H
    clear H
    go_wp2
    go_loopg [5, 6] kj2 (fun kq v5 v6 w' => ∃ (x5_2 : Int) (x6_2 : Int), v5 = .int .i64 x5_2 ∧ v6 = .int .i64 x6_2 ∧ Aside0 (sandglassref12_May.l0 kq x5_2 x6_2 a0_0 a0_1 a0_2 a0_3 a1_0 a1_1 l1_2 l1_3 = some r) ∧ Aside0 (kq ≤ kj2) ∧ Aside0 (w'.heap[gb271]? = some (.cells #[.int .i64 a0_0, .int .i64 a0_1, .int .i64 a0_2, .int .i64 a0_3] 23 (0, 0))) ∧ Aside0 (w'.heap[gb272]? = some (.cells #[.int .i64 a1_0, .int .i64 a1_1, (.slice A1_2 l1_2.length c1_2), (.slice A1_3 l1_3.length c1_3)] 27 (0, 0))) ∧ Aside0 (Below w.heap.size w w'))
    case atStart => exact ⟨(0), (0), (by first | (with_reducible rfl) | rfl | (simp; done) | (simp [*]; done)), (by first | (with_reducible rfl) | rfl | (simp; done) | (simp [*]; done)), H', ⟨Nat.le_refl _⟩, ⟨bo BK271⟩, ⟨bo BK272⟩, ⟨bl HB⟩⟩
    case round =>
     clear H'
     try clear c7; try clear c7b0; try clear c7b1; try clear c8; try clear c8b0; try clear c8b1; try clear c10; try clear c11; try clear c11b0; try clear c11b1; try clear c12; try clear c12b0; try clear c12b1; try clear c12b2; try clear c13; try clear c13b0; try clear c13b1; try clear c13b2; try clear c46; try clear hcz15_0; try clear hcz15_1; try clear hcz15_2; try clear hcz15_3; try clear hcz17_0; try clear hcz17_1; try clear hcz17_2; try clear hcz17_3; try clear hcz18_0; try clear hcz18_1; try clear hcz18_2; try clear hcz18_3; try clear hcz20_0; try clear hcz20_1; try clear hcz20_2; try clear hcz20_3; try clear hcz22_0; try clear hcz22_1; try clear hcz22_2; try clear hcz22_3; try clear hcz23_0; try clear hcz23_1; try clear hcz23_2; try clear hcz23_3; try clear hcz25_0; try clear hcz25_1; try clear hcz25_2; try clear hcz25_3; try clear hcz27_0; try clear hcz27_1; try clear hcz27_2; try clear hcz27_3; try clear hcz28_0; try clear hcz28_1; try clear hcz28_2; try clear hcz28_3; try clear hcz30_0; try clear hcz30_1; try clear hcz30_2; try clear hcz30_3; try clear hcz32_0; try clear hcz32_1; try clear hcz32_2; try clear hcz32_3; try clear hcz33_0; try clear hcz33_1; try clear hcz33_2; try clear hcz33_3; try clear hcz35_0; try clear hcz35_1; try clear hcz35_2; try clear hcz35_3; try clear hcz37_0; try clear hcz37_1; try clear hcz37_2; try clear hcz37_3; try clear hcz38_0; try clear hcz38_1; try clear hcz38_2; try clear hcz38_3; try clear hcz40_0; try clear hcz40_1; try clear hcz40_2; try clear hcz40_3; try clear hcz42_0; try clear hcz42_1; try clear hcz42_2; try clear hcz42_3; try clear hcz44_0; try clear hcz44_1; try clear hcz44_2; try clear hcz44_3; try clear hfz15_0; try clear hfz15_1; try clear hfz15_2; try clear hfz15_3; try clear hfz17_0; try clear hfz17_1; try clear hfz17_2; try clear hfz17_3; try clear hfz18_0; try clear hfz18_1; try clear hfz18_2; try clear hfz18_3; try clear hfz20_0; try clear hfz20_1; try clear hfz20_2; try clear hfz20_3; try clear hfz22_0; try clear hfz22_1; try clear hfz22_2; try clear hfz22_3; try clear hfz23_0; try clear hfz23_1; try clear hfz23_2; try clear hfz23_3; try clear hfz25_0; try clear hfz25_1; try clear hfz25_2; try clear hfz25_3; try clear hfz27_0; try clear hfz27_1; try clear hfz27_2; try clear hfz27_3; try clear hfz28_0; try clear hfz28_1; try clear hfz28_2; try clear hfz28_3; try clear hfz30_0; try clear hfz30_1; try clear hfz30_2; try clear hfz30_3; try clear hfz32_0; try clear hfz32_1; try clear hfz32_2; try clear hfz32_3; try clear hfz33_0; try clear hfz33_1; try clear hfz33_2; try clear hfz33_3; try clear hfz35_0; try clear hfz35_1; try clear hfz35_2; try clear hfz35_3; try clear hfz37_0; try clear hfz37_1; try clear hfz37_2; try clear hfz37_3; try clear hfz38_0; try clear hfz38_1; try clear hfz38_2; try clear hfz38_3; try clear hfz40_0; try clear hfz40_1; try clear hfz40_2; try clear hfz40_3; try clear hfz42_0; try clear hfz42_1; try clear hfz42_2; try clear hfz42_3; try clear hfz44_0; try clear hfz44_1; try clear hfz44_2; try clear hfz44_3
     obtain ⟨x5_2, x6_2, rfl, rfl, HA, HK2, BK271, BK272, HB⟩ := hrel
     cases gk with
     | zero => exact absurd HA.out (by simp [sandglassref12_May.l0])
     | succ k2 =>
      have H := HA.out
      clear HA
      simp only [sandglassref12_May.l0] at H
      by_cases c47 : x6_2 < (l1_2.length : Int)
      ·rw [if_pos c47] at H
       have c47b0 : decide (x6_2 < (l1_2.length : Int)) = true := decide_eq_true c47
       clear c47
       have HC48 := Aside0.mk H
       clear H
       have hnb49 := NB272_271.out
       have hnc49 := NB271_272.out
       obtain ⟨hcz50_0, hcz50_1, hcz50_2, hcz50_3⟩ := ce4 BK272
       obtain ⟨hfz50_0, hfz50_1, hfz50_2, hfz50_3⟩ := fr4 BK272
       go_upto_region 7 with (fail)
       go_cut [84] (fun v84 wc => ∃ (kq : Nat) (x84_47 : Bool), v84 = .bool x84_47 ∧ Aside0 (sandglassref12_May.j2 kq x5_2 x6_2 x84_47 a0_0 a0_1 a0_2 a0_3 a1_0 a1_1 l1_2 l1_3 = some r) ∧ Aside0 (kq ≤ k2) ∧ Aside0 (wc.heap[gb271]? = some (.cells #[.int .i64 a0_0, .int .i64 a0_1, .int .i64 a0_2, .int .i64 a0_3] 23 (0, 0))) ∧ Aside0 (wc.heap[gb272]? = some (.cells #[.int .i64 a1_0, .int .i64 a1_1, (.slice A1_2 l1_2.length c1_2), (.slice A1_3 l1_3.length c1_3)] 27 (0, 0))) ∧ Aside0 (Below w.heap.size w wc))
       case first =>
        have H := HC48.out
        clear HC48
        by_cases c51 : 0 ≤ x6_2
        ·rw [if_pos c51] at H
         have c51b0 : decide (0 ≤ x6_2) = true := decide_eq_true c51
         clear c51
         (first | rw [c51b0] | (simp only [i64_w, i32_w]; rw [c51b0]) | skip)
         by_cases c52 : (rd l1_2 x6_2) < 0
         ·rw [if_pos c52] at H
          have c52b0 : decide ((rd l1_2 x6_2) < 0) = true := decide_eq_true c52
          clear c52
          have H' := Aside0.mk H
          clear H
          try go_wp2
          replace BK271 := Aside0.mk (blk_drew BK271.out)
          replace BK272 := Aside0.mk (blk_drew BK272.out)
          replace HB := Aside0.mk (below_drew1 HB.out)
          have p275 : 0 ≤ (x6_2 : Int) := of_decide_eq_true (by first | (with_reducible assumption) | assumption)
          have q275 : x6_2 < (l1_2.length : Int) := of_decide_eq_true (by first | (with_reducible assumption) | assumption)
          obtain ⟨ad275, e275, hx275_0⟩ := Kd.at_int HR1_2.out x6_2 p275 q275
          have hw275_0 := hx275_0
          cases e275
          replace hx275_0 := (HB.out.cell (World.block_lt_of_cell? w _ hx275_0)).trans hx275_0
          replace p275 := eq_true p275
          replace q275 := eq_true q275
          refine start_ (n := 32) (S := fun w' => w'.cell? ⟨gb272, 0, none⟩ = some (.int .i64 a1_0) ∧ w'.cell? ⟨gb272, 1, none⟩ = some (.int .i64 a1_1) ∧ w'.cell? ⟨gb272, 2, none⟩ = some (.slice (some ad275) l1_2.length c1_2) ∧ w'.cell? ⟨gb272, 3, none⟩ = some (.slice A1_3 l1_3.length c1_3) ∧ w'.cell? (ad275.add (x6_2).toNat) = some (.int .i64 (rd l1_2 x6_2))) (ds := []) #[false, false, false, false, false, false, false, false, false, false, false, false, false, false, false, false, false, false, false, false, false, false, false, false, false, false, false, false, false, false, false, false] (by kernel_rfl) rfl rfl ⟨(blk_cell BK272.out 0).trans rfl, (blk_cell BK272.out 1).trans rfl, (blk_cell BK272.out 2).trans rfl, (blk_cell BK272.out 3).trans rfl, ((HB.out.cell (World.block_lt_of_cell? w _ hw275_0)).trans hw275_0)⟩ (fun hHeld => ?_); refine with_tabW sandglassref12_May.tab7 sandglassref12_May.bits7 (fun HT_ HW_ => ?_)
          generalize wr.drew = w53 at BK271 BK272 HB hx275_0 hHeld ⊢
          refine pureA 0 53 HT_ ?_
          refine pureA 2 55 HT_ ?_
          refine takeA 1 54 HT_ HW_ hHeld ?_
          refine pureA 3 56 HT_ ?_
          refine takeA 4 57 HT_ HW_ hHeld ?_
          refine pureA 5 58 HT_ ?_
          refine pureA 6 59 HT_ ?_
          refine pure_ (i := 7) (N := some 60) (v := undef) (a' := ?_) #[true, true, true, true, true, true, true, true, false, false, false, false, false, false, false, false, false, false, false, false, false, false, false, false, false, false, false, false, false, false, false, false] rfl rfl (any_of HT_.out (by kernel_rfl)) (fun _ _ _ h => h) (Or.inr ⟨by rfl, rfl⟩) ?_ ?_
          rotate_left
          ·simp only [Act.put, List.setIfInBounds_toArray, List.set_cons_zero, List.set_cons_succ, i64_w, i32_w]
           rfl
          refine pure_ (i := 8) (N := some 61) (v := undef) (a' := ?_) #[true, true, true, true, true, true, true, true, true, false, false, false, false, false, false, false, false, false, false, false, false, false, false, false, false, false, false, false, false, false, false, false] rfl rfl (any_of HT_.out (by kernel_rfl)) (fun _ _ _ h => h) (Or.inr ⟨by rfl, rfl⟩) ?_ ?_
          rotate_left
          ·simp only [Act.put, List.setIfInBounds_toArray, List.set_cons_zero, List.set_cons_succ, i64_w, i32_w]
           rfl
          refine pure_ (i := 9) (N := some 62) (v := undef) (a' := ?_) #[true, true, true, true, true, true, true, true, true, true, false, false, false, false, false, false, false, false, false, false, false, false, false, false, false, false, false, false, false, false, false, false] rfl rfl (any_of HT_.out (by kernel_rfl)) (fun _ _ _ h => h) (Or.inr ⟨by rfl, rfl⟩) ?_ ?_
          rotate_left
          ·simp only [Act.put, List.setIfInBounds_toArray, List.set_cons_zero, List.set_cons_succ, i64_w, i32_w]
           rfl
          refine pure_ (i := 10) (N := some 63) (v := undef) (a' := ?_) #[true, true, true, true, true, true, true, true, true, true, true, false, false, false, false, false, false, false, false, false, false, false, false, false, false, false, false, false, false, false, false, false] rfl rfl (any_of HT_.out (by kernel_rfl)) (fun _ _ _ h => h) (Or.inr ⟨by rfl, rfl⟩) ?_ ?_
          rotate_left
          ·simp only [Act.put, List.setIfInBounds_toArray, List.set_cons_zero, List.set_cons_succ, i64_w, i32_w]
           rfl
          refine pure_ (i := 11) (N := some 64) (v := undef) (a' := ?_) #[true, true, true, true, true, true, true, true, true, true, true, true, false, false, false, false, false, false, false, false, false, false, false, false, false, false, false, false, false, false, false, false] rfl rfl (any_of HT_.out (by kernel_rfl)) (fun _ _ _ h => h) (Or.inr ⟨by rfl, rfl⟩) ?_ ?_
          rotate_left
          ·simp only [Act.put, List.setIfInBounds_toArray, List.set_cons_zero, List.set_cons_succ, i64_w, i32_w]
           rfl
          refine pure_ (i := 12) (N := some 65) (v := undef) (a' := ?_) #[true, true, true, true, true, true, true, true, true, true, true, true, true, false, false, false, false, false, false, false, false, false, false, false, false, false, false, false, false, false, false, false] rfl rfl (any_of HT_.out (by kernel_rfl)) (fun _ _ _ h => h) (Or.inr ⟨by rfl, rfl⟩) ?_ ?_
          rotate_left
          ·simp only [Act.put, List.setIfInBounds_toArray, List.set_cons_zero, List.set_cons_succ, i64_w, i32_w]
           rfl
          refine pure_ (i := 13) (N := some 66) (v := undef) (a' := ?_) #[true, true, true, true, true, true, true, true, true, true, true, true, true, true, false, false, false, false, false, false, false, false, false, false, false, false, false, false, false, false, false, false] rfl rfl (any_of HT_.out (by kernel_rfl)) (fun _ _ _ h => h) (Or.inr ⟨by rfl, rfl⟩) ?_ ?_
          rotate_left
          ·simp only [Act.put, List.setIfInBounds_toArray, List.set_cons_zero, List.set_cons_succ, i64_w, i32_w]
           rfl
          refine pure_ (i := 14) (N := some 67) (v := undef) (a' := ?_) #[true, true, true, true, true, true, true, true, true, true, true, true, true, true, true, false, false, false, false, false, false, false, false, false, false, false, false, false, false, false, false, false] rfl rfl (any_of HT_.out (by kernel_rfl)) (fun _ _ _ h => h) (Or.inr ⟨by rfl, rfl⟩) ?_ ?_
          rotate_left
          ·simp only [Act.put, List.setIfInBounds_toArray, List.set_cons_zero, List.set_cons_succ, i64_w, i32_w]
           rfl
          refine pureA 15 68 HT_ ?_
          refine pureA 16 69 HT_ ?_
          refine pure_ (i := 17) (N := some 70) (v := undef) (a' := ?_) #[true, true, true, true, true, true, true, true, true, true, true, true, true, true, true, true, true, true, false, false, false, false, false, false, false, false, false, false, false, false, false, false] rfl rfl (any_of HT_.out (by kernel_rfl)) (fun _ _ _ h => h) (Or.inr ⟨by rfl, rfl⟩) ?_ ?_
          rotate_left
          ·simp only [Act.put, List.setIfInBounds_toArray, List.set_cons_zero, List.set_cons_succ, i64_w, i32_w]
           rfl
          refine pure_ (i := 18) (N := some 71) (v := undef) (a' := ?_) #[true, true, true, true, true, true, true, true, true, true, true, true, true, true, true, true, true, true, true, false, false, false, false, false, false, false, false, false, false, false, false, false] rfl rfl (any_of HT_.out (by kernel_rfl)) (fun _ _ _ h => h) (Or.inr ⟨by rfl, rfl⟩) ?_ ?_
          rotate_left
          ·simp only [Act.put, List.setIfInBounds_toArray, List.set_cons_zero, List.set_cons_succ, i64_w, i32_w]
           rfl
          refine pure_ (i := 19) (N := some 72) (v := undef) (a' := ?_) #[true, true, true, true, true, true, true, true, true, true, true, true, true, true, true, true, true, true, true, true, false, false, false, false, false, false, false, false, false, false, false, false] rfl rfl (any_of HT_.out (by kernel_rfl)) (fun _ _ _ h => h) (Or.inr ⟨by rfl, rfl⟩) ?_ ?_
          rotate_left
          ·simp only [Act.put, List.setIfInBounds_toArray, List.set_cons_zero, List.set_cons_succ, i64_w, i32_w]
           rfl
          refine pure_ (i := 20) (N := some 73) (v := undef) (a' := ?_) #[true, true, true, true, true, true, true, true, true, true, true, true, true, true, true, true, true, true, true, true, true, false, false, false, false, false, false, false, false, false, false, false] rfl rfl (any_of HT_.out (by kernel_rfl)) (fun _ _ _ h => h) (Or.inr ⟨by rfl, rfl⟩) ?_ ?_
          rotate_left
          ·simp only [Act.put, List.setIfInBounds_toArray, List.set_cons_zero, List.set_cons_succ, i64_w, i32_w]
           rfl
          refine pure_ (i := 21) (N := some 74) (v := undef) (a' := ?_) #[true, true, true, true, true, true, true, true, true, true, true, true, true, true, true, true, true, true, true, true, true, true, false, false, false, false, false, false, false, false, false, false] rfl rfl (any_of HT_.out (by kernel_rfl)) (fun _ _ _ h => h) (Or.inr ⟨by rfl, rfl⟩) ?_ ?_
          rotate_left
          ·simp only [Act.put, List.setIfInBounds_toArray, List.set_cons_zero, List.set_cons_succ, i64_w, i32_w]
           rfl
          refine pure_ (i := 22) (N := some 75) (v := undef) (a' := ?_) #[true, true, true, true, true, true, true, true, true, true, true, true, true, true, true, true, true, true, true, true, true, true, true, false, false, false, false, false, false, false, false, false] rfl rfl (any_of HT_.out (by kernel_rfl)) (fun _ _ _ h => h) (Or.inr ⟨by rfl, rfl⟩) ?_ ?_
          rotate_left
          ·simp only [Act.put, List.setIfInBounds_toArray, List.set_cons_zero, List.set_cons_succ, i64_w, i32_w]
           rfl
          refine pure_ (i := 23) (N := some 76) (v := undef) (a' := ?_) #[true, true, true, true, true, true, true, true, true, true, true, true, true, true, true, true, true, true, true, true, true, true, true, true, false, false, false, false, false, false, false, false] rfl rfl (any_of HT_.out (by kernel_rfl)) (fun _ _ _ h => h) (Or.inr ⟨by rfl, rfl⟩) ?_ ?_
          rotate_left
          ·simp only [Act.put, List.setIfInBounds_toArray, List.set_cons_zero, List.set_cons_succ, i64_w, i32_w]
           rfl
          refine pure_ (i := 24) (N := some 77) (v := undef) (a' := ?_) #[true, true, true, true, true, true, true, true, true, true, true, true, true, true, true, true, true, true, true, true, true, true, true, true, true, false, false, false, false, false, false, false] rfl rfl (any_of HT_.out (by kernel_rfl)) (fun _ _ _ h => h) (Or.inr ⟨by rfl, rfl⟩) ?_ ?_
          rotate_left
          ·simp only [Act.put, List.setIfInBounds_toArray, List.set_cons_zero, List.set_cons_succ, i64_w, i32_w]
           rfl
          refine pure_ (i := 25) (N := some 78) (v := undef) (a' := ?_) #[true, true, true, true, true, true, true, true, true, true, true, true, true, true, true, true, true, true, true, true, true, true, true, true, true, true, false, false, false, false, false, false] rfl rfl (any_of HT_.out (by kernel_rfl)) (fun _ _ _ h => h) (Or.inr ⟨by rfl, rfl⟩) ?_ ?_
          rotate_left
          ·simp only [Act.put, List.setIfInBounds_toArray, List.set_cons_zero, List.set_cons_succ, i64_w, i32_w]
           rfl
          refine pure_ (i := 26) (N := some 79) (v := undef) (a' := ?_) #[true, true, true, true, true, true, true, true, true, true, true, true, true, true, true, true, true, true, true, true, true, true, true, true, true, true, true, false, false, false, false, false] rfl rfl (any_of HT_.out (by kernel_rfl)) (fun _ _ _ h => h) (Or.inr ⟨by rfl, rfl⟩) ?_ ?_
          rotate_left
          ·simp only [Act.put, List.setIfInBounds_toArray, List.set_cons_zero, List.set_cons_succ, i64_w, i32_w]
           rfl
          refine pure_ (i := 27) (N := some 80) (v := undef) (a' := ?_) #[true, true, true, true, true, true, true, true, true, true, true, true, true, true, true, true, true, true, true, true, true, true, true, true, true, true, true, true, false, false, false, false] rfl rfl (any_of HT_.out (by kernel_rfl)) (fun _ _ _ h => h) (Or.inr ⟨by rfl, rfl⟩) ?_ ?_
          rotate_left
          ·simp only [Act.put, List.setIfInBounds_toArray, List.set_cons_zero, List.set_cons_succ, i64_w, i32_w]
           rfl
          refine pure_ (i := 28) (N := some 81) (v := undef) (a' := ?_) #[true, true, true, true, true, true, true, true, true, true, true, true, true, true, true, true, true, true, true, true, true, true, true, true, true, true, true, true, true, false, false, false] rfl rfl (any_of HT_.out (by kernel_rfl)) (fun _ _ _ h => h) (Or.inr ⟨by rfl, rfl⟩) ?_ ?_
          rotate_left
          ·simp only [Act.put, List.setIfInBounds_toArray, List.set_cons_zero, List.set_cons_succ, i64_w, i32_w]
           rfl
          refine pure_ (i := 29) (N := some 82) (v := undef) (a' := ?_) #[true, true, true, true, true, true, true, true, true, true, true, true, true, true, true, true, true, true, true, true, true, true, true, true, true, true, true, true, true, true, false, false] rfl rfl (any_of HT_.out (by kernel_rfl)) (fun _ _ _ h => h) (Or.inr ⟨by rfl, rfl⟩) ?_ ?_
          rotate_left
          ·simp only [Act.put, List.setIfInBounds_toArray, List.set_cons_zero, List.set_cons_succ, i64_w, i32_w]
           rfl
          refine pure_ (i := 30) (N := some 83) (v := undef) (a' := ?_) #[true, true, true, true, true, true, true, true, true, true, true, true, true, true, true, true, true, true, true, true, true, true, true, true, true, true, true, true, true, true, true, false] rfl rfl (any_of HT_.out (by kernel_rfl)) (fun _ _ _ h => h) (Or.inr ⟨by rfl, rfl⟩) ?_ ?_
          rotate_left
          ·simp only [Act.put, List.setIfInBounds_toArray, List.set_cons_zero, List.set_cons_succ, i64_w, i32_w]
           rfl
          refine pureA 31 84 HT_ ?_
          refine done_ (done_of HT_.out (by kernel_rfl)) ?_
          try go_wp2
          go_meet
          case rel => exact ⟨_, (true), (by first | (with_reducible rfl) | rfl | (simp; done) | (simp [*]; done)), H', ⟨by have := HJ2.out; have := HK2.out; first | omega | exact Nat.le_refl _⟩, ⟨bo BK271⟩, ⟨bo BK272⟩, ⟨bl HB⟩⟩
         ·rw [if_neg c52] at H
          have c52b0 : decide ((rd l1_2 x6_2) < 0) = false := decide_eq_false c52
          clear c52
          by_cases c54 : (rd l1_2 x6_2) > a0_1
          ·rw [if_pos c54] at H
           have c54b0 : decide (a0_1 < (rd l1_2 x6_2)) = true := decide_eq_true c54
           clear c54
           have H' := Aside0.mk H
           clear H
           try go_wp2
           replace BK271 := Aside0.mk (blk_drew BK271.out)
           replace BK272 := Aside0.mk (blk_drew BK272.out)
           replace HB := Aside0.mk (below_drew1 HB.out)
           have p275 : 0 ≤ (x6_2 : Int) := of_decide_eq_true (by first | (with_reducible assumption) | assumption)
           have q275 : x6_2 < (l1_2.length : Int) := of_decide_eq_true (by first | (with_reducible assumption) | assumption)
           obtain ⟨ad275, e275, hx275_0⟩ := Kd.at_int HR1_2.out x6_2 p275 q275
           have hw275_0 := hx275_0
           cases e275
           replace hx275_0 := (HB.out.cell (World.block_lt_of_cell? w _ hx275_0)).trans hx275_0
           replace p275 := eq_true p275
           replace q275 := eq_true q275
           have p276 : 0 ≤ (x6_2 : Int) := of_decide_eq_true (by first | (with_reducible assumption) | assumption)
           have q276 : x6_2 < (l1_2.length : Int) := of_decide_eq_true (by first | (with_reducible assumption) | assumption)
           obtain ⟨ad276, e276, hx276_0⟩ := Kd.at_int HR1_2.out x6_2 p276 q276
           have hw276_0 := hx276_0
           obtain rfl : ad275 = ad276 := (by injection e276)
           replace hx276_0 := (HB.out.cell (World.block_lt_of_cell? w _ hx276_0)).trans hx276_0
           replace p276 := eq_true p276
           replace q276 := eq_true q276
           refine start_ (n := 32) (S := fun w' => w'.cell? ⟨gb272, 0, none⟩ = some (.int .i64 a1_0) ∧ w'.cell? ⟨gb272, 1, none⟩ = some (.int .i64 a1_1) ∧ w'.cell? ⟨gb272, 2, none⟩ = some (.slice (some ad275) l1_2.length c1_2) ∧ w'.cell? ⟨gb272, 3, none⟩ = some (.slice A1_3 l1_3.length c1_3) ∧ w'.cell? ⟨gb271, 0, none⟩ = some (.int .i64 a0_0) ∧ w'.cell? ⟨gb271, 1, none⟩ = some (.int .i64 a0_1) ∧ w'.cell? ⟨gb271, 2, none⟩ = some (.int .i64 a0_2) ∧ w'.cell? ⟨gb271, 3, none⟩ = some (.int .i64 a0_3) ∧ w'.cell? (ad275.add (x6_2).toNat) = some (.int .i64 (rd l1_2 x6_2)) ∧ w'.cell? (ad275.add (x6_2).toNat) = some (.int .i64 (rd l1_2 x6_2))) (ds := []) #[false, false, false, false, false, false, false, false, false, false, false, false, false, false, false, false, false, false, false, false, false, false, false, false, false, false, false, false, false, false, false, false] (by kernel_rfl) rfl rfl ⟨(blk_cell BK272.out 0).trans rfl, (blk_cell BK272.out 1).trans rfl, (blk_cell BK272.out 2).trans rfl, (blk_cell BK272.out 3).trans rfl, (blk_cell BK271.out 0).trans rfl, (blk_cell BK271.out 1).trans rfl, (blk_cell BK271.out 2).trans rfl, (blk_cell BK271.out 3).trans rfl, ((HB.out.cell (World.block_lt_of_cell? w _ hw275_0)).trans hw275_0), ((HB.out.cell (World.block_lt_of_cell? w _ hw276_0)).trans hw276_0)⟩ (fun hHeld => ?_); refine with_tabW sandglassref12_May.tab7 sandglassref12_May.bits7 (fun HT_ HW_ => ?_)
           generalize wr.drew = w55 at BK271 BK272 HB hx275_0 hx276_0 hHeld ⊢
           refine pureA 0 53 HT_ ?_
           refine pureA 2 55 HT_ ?_
           refine takeA 1 54 HT_ HW_ hHeld ?_
           refine pureA 3 56 HT_ ?_
           refine takeA 4 57 HT_ HW_ hHeld ?_
           refine pureA 5 58 HT_ ?_
           refine pureA 6 59 HT_ ?_
           refine pureA 7 60 HT_ ?_
           refine pureA 9 62 HT_ ?_
           refine pureA 12 65 HT_ ?_
           refine takeA 8 61 HT_ HW_ hHeld ?_
           refine pureA 10 63 HT_ ?_
           refine takeA 11 64 HT_ HW_ hHeld ?_
           refine takeA 13 66 HT_ HW_ hHeld ?_
           refine pureA 14 67 HT_ ?_
           refine pureA 15 68 HT_ ?_
           refine pureA 16 69 HT_ ?_
           refine pure_ (i := 17) (N := some 70) (v := undef) (a' := ?_) #[true, true, true, true, true, true, true, true, true, true, true, true, true, true, true, true, true, true, false, false, false, false, false, false, false, false, false, false, false, false, false, false] rfl rfl (any_of HT_.out (by kernel_rfl)) (fun _ _ _ h => h) (Or.inr ⟨by rfl, rfl⟩) ?_ ?_
           rotate_left
           ·simp only [Act.put, List.setIfInBounds_toArray, List.set_cons_zero, List.set_cons_succ, i64_w, i32_w]
            rfl
           refine pure_ (i := 18) (N := some 71) (v := undef) (a' := ?_) #[true, true, true, true, true, true, true, true, true, true, true, true, true, true, true, true, true, true, true, false, false, false, false, false, false, false, false, false, false, false, false, false] rfl rfl (any_of HT_.out (by kernel_rfl)) (fun _ _ _ h => h) (Or.inr ⟨by rfl, rfl⟩) ?_ ?_
           rotate_left
           ·simp only [Act.put, List.setIfInBounds_toArray, List.set_cons_zero, List.set_cons_succ, i64_w, i32_w]
            rfl
           refine pure_ (i := 19) (N := some 72) (v := undef) (a' := ?_) #[true, true, true, true, true, true, true, true, true, true, true, true, true, true, true, true, true, true, true, true, false, false, false, false, false, false, false, false, false, false, false, false] rfl rfl (any_of HT_.out (by kernel_rfl)) (fun _ _ _ h => h) (Or.inr ⟨by rfl, rfl⟩) ?_ ?_
           rotate_left
           ·simp only [Act.put, List.setIfInBounds_toArray, List.set_cons_zero, List.set_cons_succ, i64_w, i32_w]
            rfl
           refine pure_ (i := 20) (N := some 73) (v := undef) (a' := ?_) #[true, true, true, true, true, true, true, true, true, true, true, true, true, true, true, true, true, true, true, true, true, false, false, false, false, false, false, false, false, false, false, false] rfl rfl (any_of HT_.out (by kernel_rfl)) (fun _ _ _ h => h) (Or.inr ⟨by rfl, rfl⟩) ?_ ?_
           rotate_left
           ·simp only [Act.put, List.setIfInBounds_toArray, List.set_cons_zero, List.set_cons_succ, i64_w, i32_w]
            rfl
           refine pure_ (i := 21) (N := some 74) (v := undef) (a' := ?_) #[true, true, true, true, true, true, true, true, true, true, true, true, true, true, true, true, true, true, true, true, true, true, false, false, false, false, false, false, false, false, false, false] rfl rfl (any_of HT_.out (by kernel_rfl)) (fun _ _ _ h => h) (Or.inr ⟨by rfl, rfl⟩) ?_ ?_
           rotate_left
           ·simp only [Act.put, List.setIfInBounds_toArray, List.set_cons_zero, List.set_cons_succ, i64_w, i32_w]
            rfl
           refine pure_ (i := 22) (N := some 75) (v := undef) (a' := ?_) #[true, true, true, true, true, true, true, true, true, true, true, true, true, true, true, true, true, true, true, true, true, true, true, false, false, false, false, false, false, false, false, false] rfl rfl (any_of HT_.out (by kernel_rfl)) (fun _ _ _ h => h) (Or.inr ⟨by rfl, rfl⟩) ?_ ?_
           rotate_left
           ·simp only [Act.put, List.setIfInBounds_toArray, List.set_cons_zero, List.set_cons_succ, i64_w, i32_w]
            rfl
           refine pure_ (i := 23) (N := some 76) (v := undef) (a' := ?_) #[true, true, true, true, true, true, true, true, true, true, true, true, true, true, true, true, true, true, true, true, true, true, true, true, false, false, false, false, false, false, false, false] rfl rfl (any_of HT_.out (by kernel_rfl)) (fun _ _ _ h => h) (Or.inr ⟨by rfl, rfl⟩) ?_ ?_
           rotate_left
           ·simp only [Act.put, List.setIfInBounds_toArray, List.set_cons_zero, List.set_cons_succ, i64_w, i32_w]
            rfl
           refine pure_ (i := 24) (N := some 77) (v := undef) (a' := ?_) #[true, true, true, true, true, true, true, true, true, true, true, true, true, true, true, true, true, true, true, true, true, true, true, true, true, false, false, false, false, false, false, false] rfl rfl (any_of HT_.out (by kernel_rfl)) (fun _ _ _ h => h) (Or.inr ⟨by rfl, rfl⟩) ?_ ?_
           rotate_left
           ·simp only [Act.put, List.setIfInBounds_toArray, List.set_cons_zero, List.set_cons_succ, i64_w, i32_w]
            rfl
           refine pure_ (i := 25) (N := some 78) (v := undef) (a' := ?_) #[true, true, true, true, true, true, true, true, true, true, true, true, true, true, true, true, true, true, true, true, true, true, true, true, true, true, false, false, false, false, false, false] rfl rfl (any_of HT_.out (by kernel_rfl)) (fun _ _ _ h => h) (Or.inr ⟨by rfl, rfl⟩) ?_ ?_
           rotate_left
           ·simp only [Act.put, List.setIfInBounds_toArray, List.set_cons_zero, List.set_cons_succ, i64_w, i32_w]
            rfl
           refine pure_ (i := 26) (N := some 79) (v := undef) (a' := ?_) #[true, true, true, true, true, true, true, true, true, true, true, true, true, true, true, true, true, true, true, true, true, true, true, true, true, true, true, false, false, false, false, false] rfl rfl (any_of HT_.out (by kernel_rfl)) (fun _ _ _ h => h) (Or.inr ⟨by rfl, rfl⟩) ?_ ?_
           rotate_left
           ·simp only [Act.put, List.setIfInBounds_toArray, List.set_cons_zero, List.set_cons_succ, i64_w, i32_w]
            rfl
           refine pure_ (i := 27) (N := some 80) (v := undef) (a' := ?_) #[true, true, true, true, true, true, true, true, true, true, true, true, true, true, true, true, true, true, true, true, true, true, true, true, true, true, true, true, false, false, false, false] rfl rfl (any_of HT_.out (by kernel_rfl)) (fun _ _ _ h => h) (Or.inr ⟨by rfl, rfl⟩) ?_ ?_
           rotate_left
           ·simp only [Act.put, List.setIfInBounds_toArray, List.set_cons_zero, List.set_cons_succ, i64_w, i32_w]
            rfl
           refine pure_ (i := 28) (N := some 81) (v := undef) (a' := ?_) #[true, true, true, true, true, true, true, true, true, true, true, true, true, true, true, true, true, true, true, true, true, true, true, true, true, true, true, true, true, false, false, false] rfl rfl (any_of HT_.out (by kernel_rfl)) (fun _ _ _ h => h) (Or.inr ⟨by rfl, rfl⟩) ?_ ?_
           rotate_left
           ·simp only [Act.put, List.setIfInBounds_toArray, List.set_cons_zero, List.set_cons_succ, i64_w, i32_w]
            rfl
           refine pure_ (i := 29) (N := some 82) (v := undef) (a' := ?_) #[true, true, true, true, true, true, true, true, true, true, true, true, true, true, true, true, true, true, true, true, true, true, true, true, true, true, true, true, true, true, false, false] rfl rfl (any_of HT_.out (by kernel_rfl)) (fun _ _ _ h => h) (Or.inr ⟨by rfl, rfl⟩) ?_ ?_
           rotate_left
           ·simp only [Act.put, List.setIfInBounds_toArray, List.set_cons_zero, List.set_cons_succ, i64_w, i32_w]
            rfl
           refine pure_ (i := 30) (N := some 83) (v := undef) (a' := ?_) #[true, true, true, true, true, true, true, true, true, true, true, true, true, true, true, true, true, true, true, true, true, true, true, true, true, true, true, true, true, true, true, false] rfl rfl (any_of HT_.out (by kernel_rfl)) (fun _ _ _ h => h) (Or.inr ⟨by rfl, rfl⟩) ?_ ?_
           rotate_left
           ·simp only [Act.put, List.setIfInBounds_toArray, List.set_cons_zero, List.set_cons_succ, i64_w, i32_w]
            rfl
           refine pureA 31 84 HT_ ?_
           refine done_ (done_of HT_.out (by kernel_rfl)) ?_
           try go_wp2
           go_meet
           case rel => exact ⟨_, (true), (by first | (with_reducible rfl) | rfl | (simp; done) | (simp [*]; done)), H', ⟨by have := HJ2.out; have := HK2.out; first | omega | exact Nat.le_refl _⟩, ⟨bo BK271⟩, ⟨bo BK272⟩, ⟨bl HB⟩⟩
          ·rw [if_neg c54] at H
           have c54b0 : decide (a0_1 < (rd l1_2 x6_2)) = false := decide_eq_false c54
           clear c54
           by_cases c56 : (rd l1_2 x6_2) > 0
           ·rw [if_pos c56] at H
            have c56b0 : decide (0 < (rd l1_2 x6_2)) = true := decide_eq_true c56
            clear c56
            replace H := Option.bind_eq_some_iff.mp H
            obtain ⟨t278, A570, H⟩ := H
            have A57 := Aside0.mk A570
            clear A570
            have H' := Aside0.mk H
            clear H
            try go_wp2
            replace BK271 := Aside0.mk (blk_drew BK271.out)
            replace BK272 := Aside0.mk (blk_drew BK272.out)
            replace HB := Aside0.mk (below_drew1 HB.out)
            have p275 : 0 ≤ (x6_2 : Int) := of_decide_eq_true (by first | (with_reducible assumption) | assumption)
            have q275 : x6_2 < (l1_2.length : Int) := of_decide_eq_true (by first | (with_reducible assumption) | assumption)
            obtain ⟨ad275, e275, hx275_0⟩ := Kd.at_int HR1_2.out x6_2 p275 q275
            have hw275_0 := hx275_0
            cases e275
            replace hx275_0 := (HB.out.cell (World.block_lt_of_cell? w _ hx275_0)).trans hx275_0
            replace p275 := eq_true p275
            replace q275 := eq_true q275
            have p276 : 0 ≤ (x6_2 : Int) := of_decide_eq_true (by first | (with_reducible assumption) | assumption)
            have q276 : x6_2 < (l1_2.length : Int) := of_decide_eq_true (by first | (with_reducible assumption) | assumption)
            obtain ⟨ad276, e276, hx276_0⟩ := Kd.at_int HR1_2.out x6_2 p276 q276
            have hw276_0 := hx276_0
            obtain rfl : ad275 = ad276 := (by injection e276)
            replace hx276_0 := (HB.out.cell (World.block_lt_of_cell? w _ hx276_0)).trans hx276_0
            replace p276 := eq_true p276
            replace q276 := eq_true q276
            have p277 : 0 ≤ (x6_2 : Int) := of_decide_eq_true (by first | (with_reducible assumption) | assumption)
            have q277 : x6_2 < (l1_2.length : Int) := of_decide_eq_true (by first | (with_reducible assumption) | assumption)
            obtain ⟨ad277, e277, hx277_0⟩ := Kd.at_int HR1_2.out x6_2 p277 q277
            have hw277_0 := hx277_0
            obtain rfl : ad275 = ad277 := (by injection e277)
            replace hx277_0 := (HB.out.cell (World.block_lt_of_cell? w _ hx277_0)).trans hx277_0
            replace p277 := eq_true p277
            replace q277 := eq_true q277
            refine start_ (n := 32) (S := fun w' => w'.cell? ⟨gb272, 0, none⟩ = some (.int .i64 a1_0) ∧ w'.cell? ⟨gb272, 1, none⟩ = some (.int .i64 a1_1) ∧ w'.cell? ⟨gb272, 2, none⟩ = some (.slice (some ad275) l1_2.length c1_2) ∧ w'.cell? ⟨gb272, 3, none⟩ = some (.slice A1_3 l1_3.length c1_3) ∧ w'.cell? ⟨gb271, 0, none⟩ = some (.int .i64 a0_0) ∧ w'.cell? ⟨gb271, 1, none⟩ = some (.int .i64 a0_1) ∧ w'.cell? ⟨gb271, 2, none⟩ = some (.int .i64 a0_2) ∧ w'.cell? ⟨gb271, 3, none⟩ = some (.int .i64 a0_3) ∧ w'.cell? (ad275.add (x6_2).toNat) = some (.int .i64 (rd l1_2 x6_2)) ∧ w'.cell? (ad275.add (x6_2).toNat) = some (.int .i64 (rd l1_2 x6_2)) ∧ w'.cell? (ad275.add (x6_2).toNat) = some (.int .i64 (rd l1_2 x6_2))) (ds := []) #[false, false, false, false, false, false, false, false, false, false, false, false, false, false, false, false, false, false, false, false, false, false, false, false, false, false, false, false, false, false, false, false] (by kernel_rfl) rfl rfl ⟨(blk_cell BK272.out 0).trans rfl, (blk_cell BK272.out 1).trans rfl, (blk_cell BK272.out 2).trans rfl, (blk_cell BK272.out 3).trans rfl, (blk_cell BK271.out 0).trans rfl, (blk_cell BK271.out 1).trans rfl, (blk_cell BK271.out 2).trans rfl, (blk_cell BK271.out 3).trans rfl, ((HB.out.cell (World.block_lt_of_cell? w _ hw275_0)).trans hw275_0), ((HB.out.cell (World.block_lt_of_cell? w _ hw276_0)).trans hw276_0), ((HB.out.cell (World.block_lt_of_cell? w _ hw277_0)).trans hw277_0)⟩ (fun hHeld => ?_); refine with_tabW sandglassref12_May.tab7 sandglassref12_May.bits7 (fun HT_ HW_ => ?_)
            generalize wr.drew = w58 at BK271 BK272 HB hx275_0 hx276_0 hx277_0 hHeld ⊢
            refine pureA 0 53 HT_ ?_
            refine pureA 2 55 HT_ ?_
            refine takeA 1 54 HT_ HW_ hHeld ?_
            refine pureA 3 56 HT_ ?_
            refine takeA 4 57 HT_ HW_ hHeld ?_
            refine pureA 5 58 HT_ ?_
            refine pureA 6 59 HT_ ?_
            refine pureA 7 60 HT_ ?_
            refine pureA 9 62 HT_ ?_
            refine pureA 12 65 HT_ ?_
            refine takeA 8 61 HT_ HW_ hHeld ?_
            refine pureA 10 63 HT_ ?_
            refine takeA 11 64 HT_ HW_ hHeld ?_
            refine takeA 13 66 HT_ HW_ hHeld ?_
            refine pureA 14 67 HT_ ?_
            refine pureA 15 68 HT_ ?_
            refine pureA 16 69 HT_ ?_
            refine pureA 17 70 HT_ ?_
            refine pureA 19 72 HT_ ?_
            refine takeA 18 71 HT_ HW_ hHeld ?_
            refine pureA 20 73 HT_ ?_
            refine takeA 21 74 HT_ HW_ hHeld ?_
            refine pureA 22 75 HT_ ?_
            refine pureA 23 76 HT_ ?_
            refine pureA 24 77 HT_ ?_
            refine pureA 26 79 HT_ ?_
            refine takeA 25 78 HT_ HW_ hHeld ?_
            refine takeA 27 80 HT_ HW_ hHeld ?_
            refine one_ (i := 28) (N := some 81) #[true, true, true, true, true, true, true, true, true, true, true, true, true, true, true, true, true, true, true, true, true, true, true, true, true, true, true, true, true, false, false, false] rfl rfl (one_of HT_.out (by kernel_rfl)) (by decide) (fun K hK => ?_)
            refine goes_ Try.func28 (by kernel_rfl) rfl #[.agg #[.int .i64 a0_0, .int .i64 a0_1, .int .i64 a0_2, .int .i64 a0_3], .int .i64 a1_0] (by rfl) rfl rfl (by (try simp only [List.map_toArray, List.map_cons, List.map_nil]); first | done | rfl | (simp only [List.length_drop, List.length_take]; rfl)) ?_
            with_reducible refine (sandglassref12_number.calls a0_0 a0_1 a0_2 a0_3 a1_0 t278 _ A57.out).mono ?_
            rintro e w59 ⟨rfl, hb⟩
            refine ⟨_, rfl, ?_⟩
            replace BK271 := Aside0.mk (blk_below (bo BK271) hb)
            replace BK272 := Aside0.mk (blk_below (bo BK272) hb)
            replace HB := Aside0.mk (below_step (bl HB) hb)
            (try clear hb)
            (try clear hb2)
            (try clear hk)
            (try clear hi)
            refine hK.out _ _ ⟨(blk_cell BK272.out 0).trans rfl, (blk_cell BK272.out 1).trans rfl, (blk_cell BK272.out 2).trans rfl, (blk_cell BK272.out 3).trans rfl, (blk_cell BK271.out 0).trans rfl, (blk_cell BK271.out 1).trans rfl, (blk_cell BK271.out 2).trans rfl, (blk_cell BK271.out 3).trans rfl, ((HB.out.cell (World.block_lt_of_cell? w _ hw275_0)).trans hw275_0), ((HB.out.cell (World.block_lt_of_cell? w _ hw276_0)).trans hw276_0), ((HB.out.cell (World.block_lt_of_cell? w _ hw277_0)).trans hw277_0)⟩ (fun hHeld => ?_)
            clear hK K
            refine norm_ (a' := ?_) ?_ ?_
            rotate_left
            ·show Act.put _ (some 81) _ = _
             simp only [Act.put, List.setIfInBounds_toArray, List.set_cons_zero, List.set_cons_succ, i64_w, i32_w]
             rfl
            refine pureA 29 82 HT_ ?_
            refine pureA 30 83 HT_ ?_
            refine pureA 31 84 HT_ ?_
            refine done_ (done_of HT_.out (by kernel_rfl)) ?_
            try go_wp2
            go_meet
            case rel => exact ⟨_, (decide (x6_2 > t278)), (by first | (with_reducible rfl) | rfl | (simp; done) | (simp [*]; done)), H', ⟨by have := HJ2.out; have := HK2.out; first | omega | exact Nat.le_refl _⟩, ⟨bo BK271⟩, ⟨bo BK272⟩, ⟨bl HB⟩⟩
           ·rw [if_neg c56] at H
            have c56b0 : decide (0 < (rd l1_2 x6_2)) = false := decide_eq_false c56
            clear c56
            have H' := Aside0.mk H
            clear H
            try go_wp2
            replace BK271 := Aside0.mk (blk_drew BK271.out)
            replace BK272 := Aside0.mk (blk_drew BK272.out)
            replace HB := Aside0.mk (below_drew1 HB.out)
            have p275 : 0 ≤ (x6_2 : Int) := of_decide_eq_true (by first | (with_reducible assumption) | assumption)
            have q275 : x6_2 < (l1_2.length : Int) := of_decide_eq_true (by first | (with_reducible assumption) | assumption)
            obtain ⟨ad275, e275, hx275_0⟩ := Kd.at_int HR1_2.out x6_2 p275 q275
            have hw275_0 := hx275_0
            cases e275
            replace hx275_0 := (HB.out.cell (World.block_lt_of_cell? w _ hx275_0)).trans hx275_0
            replace p275 := eq_true p275
            replace q275 := eq_true q275
            have p276 : 0 ≤ (x6_2 : Int) := of_decide_eq_true (by first | (with_reducible assumption) | assumption)
            have q276 : x6_2 < (l1_2.length : Int) := of_decide_eq_true (by first | (with_reducible assumption) | assumption)
            obtain ⟨ad276, e276, hx276_0⟩ := Kd.at_int HR1_2.out x6_2 p276 q276
            have hw276_0 := hx276_0
            obtain rfl : ad275 = ad276 := (by injection e276)
            replace hx276_0 := (HB.out.cell (World.block_lt_of_cell? w _ hx276_0)).trans hx276_0
            replace p276 := eq_true p276
            replace q276 := eq_true q276
            have p277 : 0 ≤ (x6_2 : Int) := of_decide_eq_true (by first | (with_reducible assumption) | assumption)
            have q277 : x6_2 < (l1_2.length : Int) := of_decide_eq_true (by first | (with_reducible assumption) | assumption)
            obtain ⟨ad277, e277, hx277_0⟩ := Kd.at_int HR1_2.out x6_2 p277 q277
            have hw277_0 := hx277_0
            obtain rfl : ad275 = ad277 := (by injection e277)
            replace hx277_0 := (HB.out.cell (World.block_lt_of_cell? w _ hx277_0)).trans hx277_0
            replace p277 := eq_true p277
            replace q277 := eq_true q277
            refine start_ (n := 32) (S := fun w' => w'.cell? ⟨gb272, 0, none⟩ = some (.int .i64 a1_0) ∧ w'.cell? ⟨gb272, 1, none⟩ = some (.int .i64 a1_1) ∧ w'.cell? ⟨gb272, 2, none⟩ = some (.slice (some ad275) l1_2.length c1_2) ∧ w'.cell? ⟨gb272, 3, none⟩ = some (.slice A1_3 l1_3.length c1_3) ∧ w'.cell? ⟨gb271, 0, none⟩ = some (.int .i64 a0_0) ∧ w'.cell? ⟨gb271, 1, none⟩ = some (.int .i64 a0_1) ∧ w'.cell? ⟨gb271, 2, none⟩ = some (.int .i64 a0_2) ∧ w'.cell? ⟨gb271, 3, none⟩ = some (.int .i64 a0_3) ∧ w'.cell? (ad275.add (x6_2).toNat) = some (.int .i64 (rd l1_2 x6_2)) ∧ w'.cell? (ad275.add (x6_2).toNat) = some (.int .i64 (rd l1_2 x6_2)) ∧ w'.cell? (ad275.add (x6_2).toNat) = some (.int .i64 (rd l1_2 x6_2))) (ds := []) #[false, false, false, false, false, false, false, false, false, false, false, false, false, false, false, false, false, false, false, false, false, false, false, false, false, false, false, false, false, false, false, false] (by kernel_rfl) rfl rfl ⟨(blk_cell BK272.out 0).trans rfl, (blk_cell BK272.out 1).trans rfl, (blk_cell BK272.out 2).trans rfl, (blk_cell BK272.out 3).trans rfl, (blk_cell BK271.out 0).trans rfl, (blk_cell BK271.out 1).trans rfl, (blk_cell BK271.out 2).trans rfl, (blk_cell BK271.out 3).trans rfl, ((HB.out.cell (World.block_lt_of_cell? w _ hw275_0)).trans hw275_0), ((HB.out.cell (World.block_lt_of_cell? w _ hw276_0)).trans hw276_0), ((HB.out.cell (World.block_lt_of_cell? w _ hw277_0)).trans hw277_0)⟩ (fun hHeld => ?_); refine with_tabW sandglassref12_May.tab7 sandglassref12_May.bits7 (fun HT_ HW_ => ?_)
            generalize wr.drew = w60 at BK271 BK272 HB hx275_0 hx276_0 hx277_0 hHeld ⊢
            refine pureA 0 53 HT_ ?_
            refine pureA 2 55 HT_ ?_
            refine takeA 1 54 HT_ HW_ hHeld ?_
            refine pureA 3 56 HT_ ?_
            refine takeA 4 57 HT_ HW_ hHeld ?_
            refine pureA 5 58 HT_ ?_
            refine pureA 6 59 HT_ ?_
            refine pureA 7 60 HT_ ?_
            refine pureA 9 62 HT_ ?_
            refine pureA 12 65 HT_ ?_
            refine takeA 8 61 HT_ HW_ hHeld ?_
            refine pureA 10 63 HT_ ?_
            refine takeA 11 64 HT_ HW_ hHeld ?_
            refine takeA 13 66 HT_ HW_ hHeld ?_
            refine pureA 14 67 HT_ ?_
            refine pureA 15 68 HT_ ?_
            refine pureA 16 69 HT_ ?_
            refine pureA 17 70 HT_ ?_
            refine pureA 19 72 HT_ ?_
            refine takeA 18 71 HT_ HW_ hHeld ?_
            refine pureA 20 73 HT_ ?_
            refine takeA 21 74 HT_ HW_ hHeld ?_
            refine pureA 22 75 HT_ ?_
            refine pureA 23 76 HT_ ?_
            refine pure_ (i := 24) (N := some 77) (v := undef) (a' := ?_) #[true, true, true, true, true, true, true, true, true, true, true, true, true, true, true, true, true, true, true, true, true, true, true, true, true, false, false, false, false, false, false, false] rfl rfl (any_of HT_.out (by kernel_rfl)) (fun _ _ _ h => h) (Or.inr ⟨by rfl, rfl⟩) ?_ ?_
            rotate_left
            ·simp only [Act.put, List.setIfInBounds_toArray, List.set_cons_zero, List.set_cons_succ, i64_w, i32_w]
             rfl
            refine pure_ (i := 25) (N := some 78) (v := undef) (a' := ?_) #[true, true, true, true, true, true, true, true, true, true, true, true, true, true, true, true, true, true, true, true, true, true, true, true, true, true, false, false, false, false, false, false] rfl rfl (any_of HT_.out (by kernel_rfl)) (fun _ _ _ h => h) (Or.inr ⟨by rfl, rfl⟩) ?_ ?_
            rotate_left
            ·simp only [Act.put, List.setIfInBounds_toArray, List.set_cons_zero, List.set_cons_succ, i64_w, i32_w]
             rfl
            refine pure_ (i := 26) (N := some 79) (v := undef) (a' := ?_) #[true, true, true, true, true, true, true, true, true, true, true, true, true, true, true, true, true, true, true, true, true, true, true, true, true, true, true, false, false, false, false, false] rfl rfl (any_of HT_.out (by kernel_rfl)) (fun _ _ _ h => h) (Or.inr ⟨by rfl, rfl⟩) ?_ ?_
            rotate_left
            ·simp only [Act.put, List.setIfInBounds_toArray, List.set_cons_zero, List.set_cons_succ, i64_w, i32_w]
             rfl
            refine pure_ (i := 27) (N := some 80) (v := undef) (a' := ?_) #[true, true, true, true, true, true, true, true, true, true, true, true, true, true, true, true, true, true, true, true, true, true, true, true, true, true, true, true, false, false, false, false] rfl rfl (any_of HT_.out (by kernel_rfl)) (fun _ _ _ h => h) (Or.inr ⟨by rfl, rfl⟩) ?_ ?_
            rotate_left
            ·simp only [Act.put, List.setIfInBounds_toArray, List.set_cons_zero, List.set_cons_succ, i64_w, i32_w]
             rfl
            refine pure_ (i := 28) (N := some 81) (v := undef) (a' := ?_) #[true, true, true, true, true, true, true, true, true, true, true, true, true, true, true, true, true, true, true, true, true, true, true, true, true, true, true, true, true, false, false, false] rfl rfl (any_of HT_.out (by kernel_rfl)) (fun _ _ _ h => h) (Or.inr ⟨by rfl, rfl⟩) ?_ ?_
            rotate_left
            ·simp only [Act.put, List.setIfInBounds_toArray, List.set_cons_zero, List.set_cons_succ, i64_w, i32_w]
             rfl
            refine pure_ (i := 29) (N := some 82) (v := undef) (a' := ?_) #[true, true, true, true, true, true, true, true, true, true, true, true, true, true, true, true, true, true, true, true, true, true, true, true, true, true, true, true, true, true, false, false] rfl rfl (any_of HT_.out (by kernel_rfl)) (fun _ _ _ h => h) (Or.inr ⟨by rfl, rfl⟩) ?_ ?_
            rotate_left
            ·simp only [Act.put, List.setIfInBounds_toArray, List.set_cons_zero, List.set_cons_succ, i64_w, i32_w]
             rfl
            refine pureA 30 83 HT_ ?_
            refine pureA 31 84 HT_ ?_
            refine done_ (done_of HT_.out (by kernel_rfl)) ?_
            try go_wp2
            go_meet
            case rel => exact ⟨_, (false), (by first | (with_reducible rfl) | rfl | (simp; done) | (simp [*]; done)), H', ⟨by have := HJ2.out; have := HK2.out; first | omega | exact Nat.le_refl _⟩, ⟨bo BK271⟩, ⟨bo BK272⟩, ⟨bl HB⟩⟩
        ·rw [if_neg c51] at H
         exact absurd H (by simp)
       case rest =>
        clear HC48
        try clear c51; try clear c56; try clear c56b0; try clear hx275_0; try clear hx276_0; try clear hx277_0; try clear p275; try clear p276; try clear p277; try clear q275; try clear q276; try clear q277
        obtain ⟨kq, x84_47, rfl, HA, HJ47, BK271, BK272, HB⟩ := hcut
        cases kq with
        | zero => exact absurd HA.out (by simp [sandglassref12_May.j2])
        | succ kj47 =>
         have H := HA.out
         clear HA
         simp only [sandglassref12_May.j2] at H
         by_cases c61 : x84_47 = true
         ·subst c61
          rw [if_pos rfl] at H
          obtain rfl := Option.some.inj H
          go_wp2
          go_ret
          exact ⟨by first | (with_reducible rfl) | rfl | (simp [errW_none, errW_some] <;> rfl) | (simp [*, errW_none, errW_some] <;> rfl), bl HB⟩
         ·replace c61 := Bool.eq_false_iff.mpr c61
          subst c61
          rw [if_neg (show ¬ (false = true) by decide)] at H
          by_cases c62 : 0 ≤ x6_2
          ·rw [if_pos c62] at H
           have c62b0 : decide (0 ≤ x6_2) = true := decide_eq_true c62
           clear c62
           by_cases c63 : x6_2 < (l1_2.length : Int)
           ·rw [if_pos c63] at H
            have c63b0 : decide (x6_2 < (l1_2.length : Int)) = true := decide_eq_true c63
            clear c63
            have H' := Aside0.mk H
            clear H
            have hnb64 := NB272_271.out
            have hnc64 := NB271_272.out
            obtain ⟨hcz65_0, hcz65_1, hcz65_2, hcz65_3⟩ := ce4 BK272
            obtain ⟨hfz65_0, hfz65_1, hfz65_2, hfz65_3⟩ := fr4 BK272
            have p279 : 0 ≤ (x6_2 : Int) := of_decide_eq_true (by first | (with_reducible assumption) | assumption)
            have q279 : x6_2 < (l1_2.length : Int) := of_decide_eq_true (by first | (with_reducible assumption) | assumption)
            obtain ⟨ad279, e279, hx279_0⟩ := Kd.at_int HR1_2.out x6_2 p279 q279
            cases e279
            replace hx279_0 := (HB.out.cell (World.block_lt_of_cell? w _ hx279_0)).trans hx279_0
            replace p279 := eq_true p279
            replace q279 := eq_true q279
            go_wp2
            go_roundg kj47
            case measure => have := HJ2.out; have := HK2.out; have := HJ47.out; omega
            case rel => exact ⟨(wrap64 (x5_2 + (rd l1_2 x6_2))), (wrap64 (x6_2 + 1)), (by first | (with_reducible rfl) | rfl | (simp; done) | (simp [*]; done)), (by first | (with_reducible rfl) | rfl | (simp; done) | (simp [*]; done)), H', ⟨by have := HJ2.out; have := HK2.out; have := HJ47.out; omega⟩, ⟨bo BK271⟩, ⟨bo BK272⟩, ⟨bl HB⟩⟩
           ·rw [if_neg c63] at H
            exact absurd H (by simp)
          ·rw [if_neg c62] at H
           exact absurd H (by simp)
      ·rw [if_neg c47] at H
       have c47b0 : decide (x6_2 < (l1_2.length : Int)) = false := decide_eq_false c47
       clear c47
       obtain rfl := Option.some.inj H
       have hnb66 := NB272_271.out
       have hnc66 := NB271_272.out
       obtain ⟨hcz67_0, hcz67_1, hcz67_2, hcz67_3⟩ := ce4 BK272
       obtain ⟨hfz67_0, hfz67_1, hfz67_2, hfz67_3⟩ := fr4 BK272
       obtain ⟨hcz68_0, hcz68_1, hcz68_2, hcz68_3⟩ := ce4 BK271
       obtain ⟨hfz68_0, hfz68_1, hfz68_2, hfz68_3⟩ := fr4 BK271
       go_wp2
       go_ret
       exact ⟨by first | (with_reducible rfl) | rfl | (simp [errW_none, errW_some] <;> rfl) | (simp [*, errW_none, errW_some] <;> rfl), bl HB⟩

end Go.Proofs.Ytalcmlgkdkbbaaa.Q
