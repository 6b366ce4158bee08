-- Laid by wip/tools/hprint.py, a program of this repo, over the kit's print; not a text of print.sh.
import Derived.Test.YtempbjcmhillgaaQ0
import Derived.Test.YtempbjcmhillgaaQ17
import Derived.Test.YtempbjcmhillgaaQ18
namespace Go.Proofs.Ytempbjcmhillgaa.Q
open Go.RowKit Go.Proofs.Ytempbjcmhillgaa.Zip Go.Proofs.YtempbjcmhillgaaW.PrintWords Go.Proofs.YtempbjcmhillgaaW.PrintLast Go.Proofs.YtempbjcmhillgaaW.PrintMore
attribute [local go_sem] max2_int min2_int max_two min_two max_three min_three max_four min_four   -- for this text's walks alone
set_option linter.unusedVariables false
set_option linter.unusedSimpArgs false

/-! ### sandglassref13_May: function 14 -/
mutual
def sandglassref13_May.j0 : Nat → Bool → Int → Int → Int → Int → Int → Int → List Int → List (S50) → Option (Bool)
  | 0, _, _, _, _, _, _, _, _, _ => none
  | k + 1, x32, x268000, x268001, x268002, x268003, x269000, x269001, x269002, x269003 => if x32 = true then (some false) else (sandglassref13_May.l0 k 0 0 x268000 x268001 x268002 x268003 x269000 x269001 x269002 x269003)
def sandglassref13_May.l0 : Nat → Int → Int → Int → Int → Int → Int → Int → Int → List Int → List (S50) → Option (Bool)
  | 0, _, _, _, _, _, _, _, _, _, _ => none
  | k + 1, x5, x6, x268000, x268001, x268002, x268003, x269000, x269001, x269002, x269003 => if x6 < (x269003.length : Int) then (if 0 ≤ x6 then (if ((rd_T50 x269003 x6).f0) < 0 then (sandglassref13_May.j2 k x5 x6 true x268000 x268001 x268002 x268003 x269000 x269001 x269002 x269003 ((rd_T50 x269003 x6).f0) ((rd_T50 x269003 x6).f1)) else (if ((rd_T50 x269003 x6).f0) > x269000 then (sandglassref13_May.j2 k x5 x6 true x268000 x268001 x268002 x268003 x269000 x269001 x269002 x269003 ((rd_T50 x269003 x6).f0) ((rd_T50 x269003 x6).f1)) else (if ((rd_T50 x269003 x6).f0) ≤ (wrap64 (x269000 - x268002)) then (sandglassref13_May.j2 k x5 x6 true x268000 x268001 x268002 x268003 x269000 x269001 x269002 x269003 ((rd_T50 x269003 x6).f0) ((rd_T50 x269003 x6).f1)) else (if x6 > 0 then (if 0 ≤ (wrap64 (x6 - 1)) then (if (wrap64 (x6 - 1)) < (x269003.length : Int) then (if ((rd_T50 x269003 (wrap64 (x6 - 1))).f0) ≥ ((rd_T50 x269003 x6).f0) then (sandglassref13_May.j2 k x5 x6 true x268000 x268001 x268002 x268003 x269000 x269001 x269002 x269003 ((rd_T50 x269003 x6).f0) ((rd_T50 x269003 x6).f1)) else (if ((rd_T50 x269003 x6).f1) < 1 then (sandglassref13_May.j2 k x5 x6 true x268000 x268001 x268002 x268003 x269000 x269001 x269002 x269003 ((rd_T50 x269003 x6).f0) ((rd_T50 x269003 x6).f1)) else (sandglassref13_May.j2 k x5 x6 (decide (((rd_T50 x269003 x6).f1) > x268001)) x268000 x268001 x268002 x268003 x269000 x269001 x269002 x269003 ((rd_T50 x269003 x6).f0) ((rd_T50 x269003 x6).f1)))) else (none)) else (none)) else (if ((rd_T50 x269003 x6).f1) < 1 then (sandglassref13_May.j2 k x5 x6 true x268000 x268001 x268002 x268003 x269000 x269001 x269002 x269003 ((rd_T50 x269003 x6).f0) ((rd_T50 x269003 x6).f1)) else (sandglassref13_May.j2 k x5 x6 (decide (((rd_T50 x269003 x6).f1) > x268001)) x268000 x268001 x268002 x268003 x269000 x269001 x269002 x269003 ((rd_T50 x269003 x6).f0) ((rd_T50 x269003 x6).f1))))))) else (none)) else (some (decide (x5 ≤ x268001)))
def sandglassref13_May.j2 : Nat → Int → Int → Bool → Int → Int → Int → Int → Int → Int → List Int → List (S50) → Int → Int → Option (Bool)
  | 0, _, _, _, _, _, _, _, _, _, _, _, _, _ => none
  | k + 1, x5, x6, x92, x268000, x268001, x268002, x268003, x269000, x269001, x269002, x269003, x273000, x273001 => if x92 = true then (some false) else (sandglassref13_May.l0 k (wrap64 (x5 + x273001)) (wrap64 (x6 + 1)) x268000 x268001 x268002 x268003 x269000 x269001 x269002 x269003)
end
def sandglassref13_May.f (k : Nat) (a0_0 : Int) (a0_1 : Int) (a0_2 : Int) (a0_3 : Int) (a1_0 : Int) (a1_1 : Int) (l1_2 : List Int) (l1_3 : List (S50)) : Option (Bool) := (sandglassref09_Check.f k a0_0 a0_1 a0_2 a0_3).bind fun t269 => (if t269 = 0 then (if a0_0 = 4 then ((sandglassref10_Time.f a1_0).bind fun t270 => (if t270 = true then (if a1_1 = 0 then (sandglassref13_May.j0 k ((l1_2.length : Int) != 0) a0_0 a0_1 a0_2 a0_3 a1_0 a1_1 l1_2 l1_3) else (sandglassref13_May.j0 k true a0_0 a0_1 a0_2 a0_3 a1_0 a1_1 l1_2 l1_3)) else (sandglassref13_May.j0 k true a0_0 a0_1 a0_2 a0_3 a1_0 a1_1 l1_2 l1_3))) else (sandglassref13_May.j0 k true a0_0 a0_1 a0_2 a0_3 a1_0 a1_1 l1_2 l1_3)) else (sandglassref13_May.j0 k true a0_0 a0_1 a0_2 a0_3 a1_0 a1_1 l1_2 l1_3))
theorem sandglassref13_May.mono_l : ∀ k, (∀ y0 y1 y2 y3 y4 y5 y6 y7 y8, LeO (sandglassref13_May.j0 k y0 y1 y2 y3 y4 y5 y6 y7 y8) (sandglassref13_May.j0 (k + 1) y0 y1 y2 y3 y4 y5 y6 y7 y8)) ∧ (∀ y0 y1 y2 y3 y4 y5 y6 y7 y8 y9, LeO (sandglassref13_May.l0 k y0 y1 y2 y3 y4 y5 y6 y7 y8 y9) (sandglassref13_May.l0 (k + 1) y0 y1 y2 y3 y4 y5 y6 y7 y8 y9)) ∧ (∀ y0 y1 y2 y3 y4 y5 y6 y7 y8 y9 y10 y11 y12, LeO (sandglassref13_May.j2 k y0 y1 y2 y3 y4 y5 y6 y7 y8 y9 y10 y11 y12) (sandglassref13_May.j2 (k + 1) y0 y1 y2 y3 y4 y5 y6 y7 y8 y9 y10 y11 y12))
  | 0 => ⟨fun _ _ _ _ _ _ _ _ _ r h => by simp [sandglassref13_May.j0] at h, fun _ _ _ _ _ _ _ _ _ _ r h => by simp [sandglassref13_May.l0] at h, fun _ _ _ _ _ _ _ _ _ _ _ _ _ r h => by simp [sandglassref13_May.j2] at h⟩
  | k + 1 => by
    obtain ⟨ih0, ih1, ih2⟩ := sandglassref13_May.mono_l k
    refine ⟨?_, ?_, ?_⟩
    · intro y0 y1 y2 y3 y4 y5 y6 y7 y8
      unfold sandglassref13_May.j0
      repeat' first
      | (with_reducible exact ih0 _ _ _ _ _ _ _ _ _)
      | (with_reducible exact ih1 _ _ _ _ _ _ _ _ _ _)
      | (with_reducible exact ih2 _ _ _ _ _ _ _ _ _ _ _ _ _)
      | (with_reducible exact sandglassref09_Check.mono _ _ _ _ _)
      | (with_reducible exact LeO.refl _)
      | (with_reducible exact LeO.none _)
      | (with_reducible refine LeO.ite ?_ ?_)
      | (with_reducible refine LeO.bind ?_ (fun _ => ?_))
      | exact ih0 _ _ _ _ _ _ _ _ _
      | exact ih1 _ _ _ _ _ _ _ _ _ _
      | exact ih2 _ _ _ _ _ _ _ _ _ _ _ _ _
      | exact sandglassref09_Check.mono _ _ _ _ _
      | exact LeO.none _
      | refine LeO.ite ?_ ?_
      | refine LeO.bind ?_ (fun _ => ?_)
    · intro y0 y1 y2 y3 y4 y5 y6 y7 y8 y9
      unfold sandglassref13_May.l0
      repeat' first
      | (with_reducible exact ih0 _ _ _ _ _ _ _ _ _)
      | (with_reducible exact ih1 _ _ _ _ _ _ _ _ _ _)
      | (with_reducible exact ih2 _ _ _ _ _ _ _ _ _ _ _ _ _)
      | (with_reducible exact sandglassref09_Check.mono _ _ _ _ _)
      | (with_reducible exact LeO.refl _)
      | (with_reducible exact LeO.none _)
      | (with_reducible refine LeO.ite ?_ ?_)
      | (with_reducible refine LeO.bind ?_ (fun _ => ?_))
      | exact ih0 _ _ _ _ _ _ _ _ _
      | exact ih1 _ _ _ _ _ _ _ _ _ _
      | exact ih2 _ _ _ _ _ _ _ _ _ _ _ _ _
      | exact sandglassref09_Check.mono _ _ _ _ _
      | exact LeO.none _
      | refine LeO.ite ?_ ?_
      | refine LeO.bind ?_ (fun _ => ?_)
    · intro y0 y1 y2 y3 y4 y5 y6 y7 y8 y9 y10 y11 y12
      unfold sandglassref13_May.j2
      repeat' first
      | (with_reducible exact ih0 _ _ _ _ _ _ _ _ _)
      | (with_reducible exact ih1 _ _ _ _ _ _ _ _ _ _)
      | (with_reducible exact ih2 _ _ _ _ _ _ _ _ _ _ _ _ _)
      | (with_reducible exact sandglassref09_Check.mono _ _ _ _ _)
      | (with_reducible exact LeO.refl _)
      | (with_reducible exact LeO.none _)
      | (with_reducible refine LeO.ite ?_ ?_)
      | (with_reducible refine LeO.bind ?_ (fun _ => ?_))
      | exact ih0 _ _ _ _ _ _ _ _ _
      | exact ih1 _ _ _ _ _ _ _ _ _ _
      | exact ih2 _ _ _ _ _ _ _ _ _ _ _ _ _
      | exact sandglassref09_Check.mono _ _ _ _ _
      | exact LeO.none _
      | refine LeO.ite ?_ ?_
      | refine LeO.bind ?_ (fun _ => ?_)
theorem sandglassref13_May.mono : ∀ a0 a1 a2 a3 a4 a5 a6 a7 k, LeO (sandglassref13_May.f k a0 a1 a2 a3 a4 a5 a6 a7) (sandglassref13_May.f (k + 1) a0 a1 a2 a3 a4 a5 a6 a7) := by
  intro a0 a1 a2 a3 a4 a5 a6 a7 k
  obtain ⟨ih0, ih1, ih2⟩ := sandglassref13_May.mono_l k
  unfold sandglassref13_May.f
  repeat' first
      | (with_reducible exact ih0 _ _ _ _ _ _ _ _ _)
      | (with_reducible exact ih1 _ _ _ _ _ _ _ _ _ _)
      | (with_reducible exact ih2 _ _ _ _ _ _ _ _ _ _ _ _ _)
      | (with_reducible exact sandglassref09_Check.mono _ _ _ _ _)
      | (with_reducible exact LeO.refl _)
      | (with_reducible exact LeO.none _)
      | (with_reducible refine LeO.ite ?_ ?_)
      | (with_reducible refine LeO.bind ?_ (fun _ => ?_))
      | exact ih0 _ _ _ _ _ _ _ _ _
      | exact ih1 _ _ _ _ _ _ _ _ _ _
      | exact ih2 _ _ _ _ _ _ _ _ _ _ _ _ _
      | exact sandglassref09_Check.mono _ _ _ _ _
      | exact LeO.none _
      | refine LeO.ite ?_ ?_
      | refine LeO.bind ?_ (fun _ => ?_)
set_option maxHeartbeats 8000000 in
set_option maxRecDepth 100000 in
theorem sandglassref13_May.calls (k : Nat) (a0_0 : Int) (a0_1 : Int) (a0_2 : Int) (a0_3 : Int) (a1_0 : Int) (a1_1 : Int) (A1_2 : Option Addr) (c1_2 : Nat) (l1_2 : List Int) (A1_3 : Option Addr) (c1_3 : Nat) (l1_3 : List (S50)) (r : Bool) (w : World) (hr1_2 : Kd.C (Kd.int .i64) w A1_2 l1_2.length l1_2) (hc1_2 : l1_2.length ≤ c1_2) (hr1_3 : Kd.C k50 w A1_3 l1_3.length l1_3) (hc1_3 : l1_3.length ≤ c1_3) (h : sandglassref13_May.f k a0_0 a0_1 a0_2 a0_3 a1_0 a1_1 l1_2 l1_3 = some r) :
  Calls Try.prog 14 #[.agg #[.int .i64 a0_0, .int .i64 a0_1, .int .i64 a0_2, .int .i64 a0_3], .agg #[.int .i64 a1_0, .int .i64 a1_1, .slice A1_2 l1_2.length c1_2, .slice A1_3 l1_3.length c1_3]] w fun e w' => e = .returned (.bool r) ∧ Below w.heap.size w w' := by
 have hu23 := Try.underlying23
 have hu27 := Try.underlying27
 have hu50 := Try.underlying50
 have HR1_2 := Aside0.mk hr1_2
 have HC1_2 := Aside0.mk hc1_2
 clear hr1_2 hc1_2
 have HR1_3 := Aside0.mk hr1_3
 have HC1_3 := Aside0.mk hc1_3
 clear hr1_3 hc1_3
 have HB := Aside0.mk (Below.refl w.heap.size w)
 have H : ((sandglassref09_Check.f k a0_0 a0_1 a0_2 a0_3).bind fun t269 => (if t269 = 0 then (if a0_0 = 4 then ((sandglassref10_Time.f a1_0).bind fun t270 => (if t270 = true then (if a1_1 = 0 then (sandglassref13_May.j0 k ((l1_2.length : Int) != 0) a0_0 a0_1 a0_2 a0_3 a1_0 a1_1 l1_2 l1_3) else (sandglassref13_May.j0 k true a0_0 a0_1 a0_2 a0_3 a1_0 a1_1 l1_2 l1_3)) else (sandglassref13_May.j0 k true a0_0 a0_1 a0_2 a0_3 a1_0 a1_1 l1_2 l1_3))) else (sandglassref13_May.j0 k true a0_0 a0_1 a0_2 a0_3 a1_0 a1_1 l1_2 l1_3)) else (sandglassref13_May.j0 k true a0_0 a0_1 a0_2 a0_3 a1_0 a1_1 l1_2 l1_3))) = some r := h
 clear h
 have HC3 := Aside0.mk H
 clear H
 go_enter Try.func14, Try.ntmps14
 go_upto_region 1 with (first | ((with_reducible refine gate_dst (N := 2) rfl ?_); (try (refine gate_guard (by rfl) ?_; dsimp only)); refine box_event ?hg (N := 2) ?hd (cs := #[.int .i64 a0_0, .int .i64 a0_1, .int .i64 a0_2, .int .i64 a0_3]) (t := 23) ?hr ?_; (case hd => rfl); (case hg => rfl); (case hr => first | (go_simp; done) | (go_simp; rfl)); intro gb267 hg w4 hbox hb; have BK267 := Aside0.mk (hbox); have GW267 := Aside0.mk ((by rw [hg]; exact (below_size (bl HB)) : w.heap.size ≤ gb267)); have GE267 := Aside0.mk ((by rw [hg]; exact (below_size (bl HB)) : w.heap.size ≤ gb267)); replace HB := Aside0.mk (below_step (bl HB) hb); clear hb hbox hg) | ((with_reducible refine gate_dst (N := 3) rfl ?_); (try (refine gate_guard (by rfl) ?_; dsimp only)); refine box_event ?hg (N := 3) ?hd (cs := #[.int .i64 a1_0, .int .i64 a1_1, .slice A1_2 l1_2.length c1_2, .slice A1_3 l1_3.length c1_3]) (t := 27) ?hr ?_; (case hd => rfl); (case hg => rfl); (case hr => first | (go_simp; done) | (go_simp; rfl)); intro gb268 hg w5 hbox hb; have BK268 := Aside0.mk (hbox); have GW268 := Aside0.mk ((by rw [hg]; exact (below_size (bl HB)) : w.heap.size ≤ gb268)); have GE268 := Aside0.mk ((by rw [hg]; exact (below_size (bl HB)) : w.heap.size ≤ gb268)); have NB267_268 := nb BK267 hg; have NB268_267 := bn BK267 hg; replace BK267 := Aside0.mk (blk_below (bo BK267) hb); replace HB := Aside0.mk (below_step (bl HB) hb); clear hb hbox hg))
 repeat (go_quiet (first | ((with_reducible refine gate_dst (N := 2) rfl ?_); (try (refine gate_guard (by rfl) ?_; dsimp only)); refine box_event ?hg (N := 2) ?hd (cs := #[.int .i64 a0_0, .int .i64 a0_1, .int .i64 a0_2, .int .i64 a0_3]) (t := 23) ?hr ?_; (case hd => rfl); (case hg => rfl); (case hr => first | (go_simp; done) | (go_simp; rfl)); intro gb267 hg w4 hbox hb; have BK267 := Aside0.mk (hbox); have GW267 := Aside0.mk ((by rw [hg]; exact (below_size (bl HB)) : w.heap.size ≤ gb267)); have GE267 := Aside0.mk ((by rw [hg]; exact (below_size (bl HB)) : w.heap.size ≤ gb267)); replace HB := Aside0.mk (below_step (bl HB) hb); clear hb hbox hg) | ((with_reducible refine gate_dst (N := 3) rfl ?_); (try (refine gate_guard (by rfl) ?_; dsimp only)); refine box_event ?hg (N := 3) ?hd (cs := #[.int .i64 a1_0, .int .i64 a1_1, .slice A1_2 l1_2.length c1_2, .slice A1_3 l1_3.length c1_3]) (t := 27) ?hr ?_; (case hd => rfl); (case hg => rfl); (case hr => first | (go_simp; done) | (go_simp; rfl)); intro gb268 hg w5 hbox hb; have BK268 := Aside0.mk (hbox); have GW268 := Aside0.mk ((by rw [hg]; exact (below_size (bl HB)) : w.heap.size ≤ gb268)); have GE268 := Aside0.mk ((by rw [hg]; exact (below_size (bl HB)) : w.heap.size ≤ gb268)); have NB267_268 := nb BK267 hg; have NB268_267 := bn BK267 hg; replace BK267 := Aside0.mk (blk_below (bo BK267) hb); replace HB := Aside0.mk (below_step (bl HB) hb); clear hb hbox hg)); go_upto_region 1 with (first | ((with_reducible refine gate_dst (N := 2) rfl ?_); (try (refine gate_guard (by rfl) ?_; dsimp only)); refine box_event ?hg (N := 2) ?hd (cs := #[.int .i64 a0_0, .int .i64 a0_1, .int .i64 a0_2, .int .i64 a0_3]) (t := 23) ?hr ?_; (case hd => rfl); (case hg => rfl); (case hr => first | (go_simp; done) | (go_simp; rfl)); intro gb267 hg w4 hbox hb; have BK267 := Aside0.mk (hbox); have GW267 := Aside0.mk ((by rw [hg]; exact (below_size (bl HB)) : w.heap.size ≤ gb267)); have GE267 := Aside0.mk ((by rw [hg]; exact (below_size (bl HB)) : w.heap.size ≤ gb267)); replace HB := Aside0.mk (below_step (bl HB) hb); clear hb hbox hg) | ((with_reducible refine gate_dst (N := 3) rfl ?_); (try (refine gate_guard (by rfl) ?_; dsimp only)); refine box_event ?hg (N := 3) ?hd (cs := #[.int .i64 a1_0, .int .i64 a1_1, .slice A1_2 l1_2.length c1_2, .slice A1_3 l1_3.length c1_3]) (t := 27) ?hr ?_; (case hd => rfl); (case hg => rfl); (case hr => first | (go_simp; done) | (go_simp; rfl)); intro gb268 hg w5 hbox hb; have BK268 := Aside0.mk (hbox); have GW268 := Aside0.mk ((by rw [hg]; exact (below_size (bl HB)) : w.heap.size ≤ gb268)); have GE268 := Aside0.mk ((by rw [hg]; exact (below_size (bl HB)) : w.heap.size ≤ gb268)); have NB267_268 := nb BK267 hg; have NB268_267 := bn BK267 hg; replace BK267 := Aside0.mk (blk_below (bo BK267) hb); replace HB := Aside0.mk (below_step (bl HB) hb); clear hb hbox hg)))
 (try simp only [Act.put, List.setIfInBounds_toArray, List.set_cons_zero, List.set_cons_succ])
 go_cut [32] (fun v32 wc => ∃ (kq : Nat) (x32_2 : Bool), v32 = .bool x32_2 ∧ Aside0 (sandglassref13_May.j0 kq x32_2 a0_0 a0_1 a0_2 a0_3 a1_0 a1_1 l1_2 l1_3 = some r) ∧ Aside0 (kq ≤ k) ∧ Aside0 (wc.heap[gb267]? = some (.cells #[.int .i64 a0_0, .int .i64 a0_1, .int .i64 a0_2, .int .i64 a0_3] 23 (0, 0))) ∧ Aside0 (wc.heap[gb268]? = some (.cells #[.int .i64 a1_0, .int .i64 a1_1, (.slice A1_2 l1_2.length c1_2), (.slice A1_3 l1_3.length c1_3)] 27 (0, 0))) ∧ Aside0 (Below w.heap.size w wc))
 case first =>
  have H := HC3.out
  clear HC3
  replace H := Option.bind_eq_some_iff.mp H
  obtain ⟨t269, A60, H⟩ := H
  have A6 := Aside0.mk A60
  clear A60
  by_cases c7 : t269 = 0
  ·rw [if_pos c7] at H
   have c7b0 : (t269 == 0) = true := beq_iff_eq.mpr c7
   have c7b1 : (t269 != 0) = false := bne_eq_false_iff_eq.mpr c7
   clear c7
   (first | rw [c7b0] | (simp only [i64_w, i32_w]; rw [c7b0]) | skip)
   by_cases c8 : a0_0 = 4
   ·rw [if_pos c8] at H
    have c8b0 : (a0_0 == 4) = true := beq_iff_eq.mpr c8
    have c8b1 : (a0_0 != 4) = false := bne_eq_false_iff_eq.mpr c8
    clear c8
    replace H := Option.bind_eq_some_iff.mp H
    obtain ⟨t270, A90, H⟩ := H
    have A9 := Aside0.mk A90
    clear A90
    by_cases c10 : t270 = true
    ·subst c10
     rw [if_pos rfl] at H
     by_cases c11 : a1_1 = 0
     ·rw [if_pos c11] at H
      have c11b0 : (a1_1 == 0) = true := beq_iff_eq.mpr c11
      have c11b1 : (a1_1 != 0) = false := bne_eq_false_iff_eq.mpr c11
      clear c11
      have H' := Aside0.mk H
      clear H
      have hnb12 := NB267_268.out
      have hnc12 := NB268_267.out
      obtain ⟨hcz13_0, hcz13_1, hcz13_2, hcz13_3⟩ := ce4 BK267
      obtain ⟨hfz13_0, hfz13_1, hfz13_2, hfz13_3⟩ := fr4 BK267
      go_wp2_with (first | (go_at_call 20; (with_reducible refine (sandglassref09_Check.calls k a0_0 a0_1 a0_2 a0_3 t269 _ A6.out).mono ?_); rintro e w14 ⟨rfl, hb⟩; replace BK267 := Aside0.mk (blk_below (bo BK267) hb); replace BK268 := Aside0.mk (blk_below (bo BK268) hb); replace HB := Aside0.mk (below_step (bl HB) hb); (try clear hb); (try clear hb2); (try clear hk); (try clear hi); obtain ⟨hcz15_0, hcz15_1, hcz15_2, hcz15_3⟩ := ce4 BK267; obtain ⟨hfz15_0, hfz15_1, hfz15_2, hfz15_3⟩ := fr4 BK267; obtain ⟨hcz16_0, hcz16_1, hcz16_2, hcz16_3⟩ := ce4 BK268; obtain ⟨hfz16_0, hfz16_1, hfz16_2, hfz16_3⟩ := fr4 BK268) | (go_at_call 27; (with_reducible refine (sandglassref10_Time.calls a1_0 true _ A9.out).mono ?_); rintro e w' ⟨rfl, ⟨nd, rfl⟩⟩; (try first | exact ⟨rfl, _, World.drewN_drewN _ _ _⟩ | exact ⟨rfl, _, Eq.trans (World.drewN_drewN _ _ _) (congrArg (World.drewN _) (Nat.add_assoc _ _ _))⟩)))
      repeat (go_quiet (first | (go_at_call 20; (with_reducible refine (sandglassref09_Check.calls k a0_0 a0_1 a0_2 a0_3 t269 _ A6.out).mono ?_); rintro e w14 ⟨rfl, hb⟩; replace BK267 := Aside0.mk (blk_below (bo BK267) hb); replace BK268 := Aside0.mk (blk_below (bo BK268) hb); replace HB := Aside0.mk (below_step (bl HB) hb); (try clear hb); (try clear hb2); (try clear hk); (try clear hi); obtain ⟨hcz15_0, hcz15_1, hcz15_2, hcz15_3⟩ := ce4 BK267; obtain ⟨hfz15_0, hfz15_1, hfz15_2, hfz15_3⟩ := fr4 BK267; obtain ⟨hcz16_0, hcz16_1, hcz16_2, hcz16_3⟩ := ce4 BK268; obtain ⟨hfz16_0, hfz16_1, hfz16_2, hfz16_3⟩ := fr4 BK268) | (go_at_call 27; (with_reducible refine (sandglassref10_Time.calls a1_0 true _ A9.out).mono ?_); rintro e w' ⟨rfl, ⟨nd, rfl⟩⟩; (try first | exact ⟨rfl, _, World.drewN_drewN _ _ _⟩ | exact ⟨rfl, _, Eq.trans (World.drewN_drewN _ _ _) (congrArg (World.drewN _) (Nat.add_assoc _ _ _))⟩))); try go_wp2_with (first | (go_at_call 20; (with_reducible refine (sandglassref09_Check.calls k a0_0 a0_1 a0_2 a0_3 t269 _ A6.out).mono ?_); rintro e w14 ⟨rfl, hb⟩; replace BK267 := Aside0.mk (blk_below (bo BK267) hb); replace BK268 := Aside0.mk (blk_below (bo BK268) hb); replace HB := Aside0.mk (below_step (bl HB) hb); (try clear hb); (try clear hb2); (try clear hk); (try clear hi); obtain ⟨hcz15_0, hcz15_1, hcz15_2, hcz15_3⟩ := ce4 BK267; obtain ⟨hfz15_0, hfz15_1, hfz15_2, hfz15_3⟩ := fr4 BK267; obtain ⟨hcz16_0, hcz16_1, hcz16_2, hcz16_3⟩ := ce4 BK268; obtain ⟨hfz16_0, hfz16_1, hfz16_2, hfz16_3⟩ := fr4 BK268) | (go_at_call 27; (with_reducible refine (sandglassref10_Time.calls a1_0 true _ A9.out).mono ?_); rintro e w' ⟨rfl, ⟨nd, rfl⟩⟩; (try first | exact ⟨rfl, _, World.drewN_drewN _ _ _⟩ | exact ⟨rfl, _, Eq.trans (World.drewN_drewN _ _ _) (congrArg (World.drewN _) (Nat.add_assoc _ _ _))⟩))))
      go_meet
      case rel => exact ⟨_, (((l1_2.length : Int) != 0)), (by first | (with_reducible rfl) | rfl | (simp; done) | (simp [*]; done)), H', ⟨by first | omega | exact Nat.le_refl _⟩, ⟨bo BK267⟩, ⟨bo BK268⟩, ⟨bl HB⟩⟩
     ·rw [if_neg c11] at H
      have c11b0 : (a1_1 == 0) = false := beq_eq_false_iff_ne.mpr c11
      have c11b1 : (a1_1 != 0) = true := bne_iff_ne.mpr c11
      have H' := Aside0.mk H
      clear H
      have hnb17 := NB267_268.out
      have hnc17 := NB268_267.out
      obtain ⟨hcz18_0, hcz18_1, hcz18_2, hcz18_3⟩ := ce4 BK267
      obtain ⟨hfz18_0, hfz18_1, hfz18_2, hfz18_3⟩ := fr4 BK267
      go_wp2_with (first | (go_at_call 20; (with_reducible refine (sandglassref09_Check.calls k a0_0 a0_1 a0_2 a0_3 t269 _ A6.out).mono ?_); rintro e w19 ⟨rfl, hb⟩; replace BK267 := Aside0.mk (blk_below (bo BK267) hb); replace BK268 := Aside0.mk (blk_below (bo BK268) hb); replace HB := Aside0.mk (below_step (bl HB) hb); (try clear hb); (try clear hb2); (try clear hk); (try clear hi); obtain ⟨hcz20_0, hcz20_1, hcz20_2, hcz20_3⟩ := ce4 BK267; obtain ⟨hfz20_0, hfz20_1, hfz20_2, hfz20_3⟩ := fr4 BK267; obtain ⟨hcz21_0, hcz21_1, hcz21_2, hcz21_3⟩ := ce4 BK268; obtain ⟨hfz21_0, hfz21_1, hfz21_2, hfz21_3⟩ := fr4 BK268) | (go_at_call 27; (with_reducible refine (sandglassref10_Time.calls a1_0 true _ A9.out).mono ?_); rintro e w' ⟨rfl, ⟨nd, rfl⟩⟩; (try first | exact ⟨rfl, _, World.drewN_drewN _ _ _⟩ | exact ⟨rfl, _, Eq.trans (World.drewN_drewN _ _ _) (congrArg (World.drewN _) (Nat.add_assoc _ _ _))⟩)))
      repeat (go_quiet (first | (go_at_call 20; (with_reducible refine (sandglassref09_Check.calls k a0_0 a0_1 a0_2 a0_3 t269 _ A6.out).mono ?_); rintro e w19 ⟨rfl, hb⟩; replace BK267 := Aside0.mk (blk_below (bo BK267) hb); replace BK268 := Aside0.mk (blk_below (bo BK268) hb); replace HB := Aside0.mk (below_step (bl HB) hb); (try clear hb); (try clear hb2); (try clear hk); (try clear hi); obtain ⟨hcz20_0, hcz20_1, hcz20_2, hcz20_3⟩ := ce4 BK267; obtain ⟨hfz20_0, hfz20_1, hfz20_2, hfz20_3⟩ := fr4 BK267; obtain ⟨hcz21_0, hcz21_1, hcz21_2, hcz21_3⟩ := ce4 BK268; obtain ⟨hfz21_0, hfz21_1, hfz21_2, hfz21_3⟩ := fr4 BK268) | (go_at_call 27; (with_reducible refine (sandglassref10_Time.calls a1_0 true _ A9.out).mono ?_); rintro e w' ⟨rfl, ⟨nd, rfl⟩⟩; (try first | exact ⟨rfl, _, World.drewN_drewN _ _ _⟩ | exact ⟨rfl, _, Eq.trans (World.drewN_drewN _ _ _) (congrArg (World.drewN _) (Nat.add_assoc _ _ _))⟩))); try go_wp2_with (first | (go_at_call 20; (with_reducible refine (sandglassref09_Check.calls k a0_0 a0_1 a0_2 a0_3 t269 _ A6.out).mono ?_); rintro e w19 ⟨rfl, hb⟩; replace BK267 := Aside0.mk (blk_below (bo BK267) hb); replace BK268 := Aside0.mk (blk_below (bo BK268) hb); replace HB := Aside0.mk (below_step (bl HB) hb); (try clear hb); (try clear hb2); (try clear hk); (try clear hi); obtain ⟨hcz20_0, hcz20_1, hcz20_2, hcz20_3⟩ := ce4 BK267; obtain ⟨hfz20_0, hfz20_1, hfz20_2, hfz20_3⟩ := fr4 BK267; obtain ⟨hcz21_0, hcz21_1, hcz21_2, hcz21_3⟩ := ce4 BK268; obtain ⟨hfz21_0, hfz21_1, hfz21_2, hfz21_3⟩ := fr4 BK268) | (go_at_call 27; (with_reducible refine (sandglassref10_Time.calls a1_0 true _ A9.out).mono ?_); rintro e w' ⟨rfl, ⟨nd, rfl⟩⟩; (try first | exact ⟨rfl, _, World.drewN_drewN _ _ _⟩ | exact ⟨rfl, _, Eq.trans (World.drewN_drewN _ _ _) (congrArg (World.drewN _) (Nat.add_assoc _ _ _))⟩))))
      go_meet
      case rel => exact ⟨_, (true), (by first | (with_reducible rfl) | rfl | (simp; done) | (simp [*]; done)), H', ⟨by first | omega | exact Nat.le_refl _⟩, ⟨bo BK267⟩, ⟨bo BK268⟩, ⟨bl HB⟩⟩
    ·replace c10 := Bool.eq_false_iff.mpr c10
     subst c10
     rw [if_neg (show ¬ (false = true) by decide)] at H
     have H' := Aside0.mk H
     clear H
     have hnb22 := NB267_268.out
     have hnc22 := NB268_267.out
     obtain ⟨hcz23_0, hcz23_1, hcz23_2, hcz23_3⟩ := ce4 BK267
     obtain ⟨hfz23_0, hfz23_1, hfz23_2, hfz23_3⟩ := fr4 BK267
     go_wp2_with (first | (go_at_call 20; (with_reducible refine (sandglassref09_Check.calls k a0_0 a0_1 a0_2 a0_3 t269 _ A6.out).mono ?_); rintro e w24 ⟨rfl, hb⟩; replace BK267 := Aside0.mk (blk_below (bo BK267) hb); replace BK268 := Aside0.mk (blk_below (bo BK268) hb); replace HB := Aside0.mk (below_step (bl HB) hb); (try clear hb); (try clear hb2); (try clear hk); (try clear hi); obtain ⟨hcz25_0, hcz25_1, hcz25_2, hcz25_3⟩ := ce4 BK267; obtain ⟨hfz25_0, hfz25_1, hfz25_2, hfz25_3⟩ := fr4 BK267; obtain ⟨hcz26_0, hcz26_1, hcz26_2, hcz26_3⟩ := ce4 BK268; obtain ⟨hfz26_0, hfz26_1, hfz26_2, hfz26_3⟩ := fr4 BK268) | (go_at_call 27; (with_reducible refine (sandglassref10_Time.calls a1_0 false _ A9.out).mono ?_); rintro e w' ⟨rfl, ⟨nd, rfl⟩⟩; (try first | exact ⟨rfl, _, World.drewN_drewN _ _ _⟩ | exact ⟨rfl, _, Eq.trans (World.drewN_drewN _ _ _) (congrArg (World.drewN _) (Nat.add_assoc _ _ _))⟩)))
     repeat (go_quiet (first | (go_at_call 20; (with_reducible refine (sandglassref09_Check.calls k a0_0 a0_1 a0_2 a0_3 t269 _ A6.out).mono ?_); rintro e w24 ⟨rfl, hb⟩; replace BK267 := Aside0.mk (blk_below (bo BK267) hb); replace BK268 := Aside0.mk (blk_below (bo BK268) hb); replace HB := Aside0.mk (below_step (bl HB) hb); (try clear hb); (try clear hb2); (try clear hk); (try clear hi); obtain ⟨hcz25_0, hcz25_1, hcz25_2, hcz25_3⟩ := ce4 BK267; obtain ⟨hfz25_0, hfz25_1, hfz25_2, hfz25_3⟩ := fr4 BK267; obtain ⟨hcz26_0, hcz26_1, hcz26_2, hcz26_3⟩ := ce4 BK268; obtain ⟨hfz26_0, hfz26_1, hfz26_2, hfz26_3⟩ := fr4 BK268) | (go_at_call 27; (with_reducible refine (sandglassref10_Time.calls a1_0 false _ A9.out).mono ?_); rintro e w' ⟨rfl, ⟨nd, rfl⟩⟩; (try first | exact ⟨rfl, _, World.drewN_drewN _ _ _⟩ | exact ⟨rfl, _, Eq.trans (World.drewN_drewN _ _ _) (congrArg (World.drewN _) (Nat.add_assoc _ _ _))⟩))); try go_wp2_with (first | (go_at_call 20; (with_reducible refine (sandglassref09_Check.calls k a0_0 a0_1 a0_2 a0_3 t269 _ A6.out).mono ?_); rintro e w24 ⟨rfl, hb⟩; replace BK267 := Aside0.mk (blk_below (bo BK267) hb); replace BK268 := Aside0.mk (blk_below (bo BK268) hb); replace HB := Aside0.mk (below_step (bl HB) hb); (try clear hb); (try clear hb2); (try clear hk); (try clear hi); obtain ⟨hcz25_0, hcz25_1, hcz25_2, hcz25_3⟩ := ce4 BK267; obtain ⟨hfz25_0, hfz25_1, hfz25_2, hfz25_3⟩ := fr4 BK267; obtain ⟨hcz26_0, hcz26_1, hcz26_2, hcz26_3⟩ := ce4 BK268; obtain ⟨hfz26_0, hfz26_1, hfz26_2, hfz26_3⟩ := fr4 BK268) | (go_at_call 27; (with_reducible refine (sandglassref10_Time.calls a1_0 false _ A9.out).mono ?_); rintro e w' ⟨rfl, ⟨nd, rfl⟩⟩; (try first | exact ⟨rfl, _, World.drewN_drewN _ _ _⟩ | exact ⟨rfl, _, Eq.trans (World.drewN_drewN _ _ _) (congrArg (World.drewN _) (Nat.add_assoc _ _ _))⟩))))
     go_meet
     case rel => exact ⟨_, (true), (by first | (with_reducible rfl) | rfl | (simp; done) | (simp [*]; done)), H', ⟨by first | omega | exact Nat.le_refl _⟩, ⟨bo BK267⟩, ⟨bo BK268⟩, ⟨bl HB⟩⟩
   ·rw [if_neg c8] at H
    have c8b0 : (a0_0 == 4) = false := beq_eq_false_iff_ne.mpr c8
    have c8b1 : (a0_0 != 4) = true := bne_iff_ne.mpr c8
    have H' := Aside0.mk H
    clear H
    have hnb27 := NB267_268.out
    have hnc27 := NB268_267.out
    obtain ⟨hcz28_0, hcz28_1, hcz28_2, hcz28_3⟩ := ce4 BK267
    obtain ⟨hfz28_0, hfz28_1, hfz28_2, hfz28_3⟩ := fr4 BK267
    go_wp2_with (first | (go_at_call 20; (with_reducible refine (sandglassref09_Check.calls k a0_0 a0_1 a0_2 a0_3 t269 _ A6.out).mono ?_); rintro e w29 ⟨rfl, hb⟩; replace BK267 := Aside0.mk (blk_below (bo BK267) hb); replace BK268 := Aside0.mk (blk_below (bo BK268) hb); replace HB := Aside0.mk (below_step (bl HB) hb); (try clear hb); (try clear hb2); (try clear hk); (try clear hi); obtain ⟨hcz30_0, hcz30_1, hcz30_2, hcz30_3⟩ := ce4 BK267; obtain ⟨hfz30_0, hfz30_1, hfz30_2, hfz30_3⟩ := fr4 BK267))
    repeat (go_quiet (first | (go_at_call 20; (with_reducible refine (sandglassref09_Check.calls k a0_0 a0_1 a0_2 a0_3 t269 _ A6.out).mono ?_); rintro e w29 ⟨rfl, hb⟩; replace BK267 := Aside0.mk (blk_below (bo BK267) hb); replace BK268 := Aside0.mk (blk_below (bo BK268) hb); replace HB := Aside0.mk (below_step (bl HB) hb); (try clear hb); (try clear hb2); (try clear hk); (try clear hi); obtain ⟨hcz30_0, hcz30_1, hcz30_2, hcz30_3⟩ := ce4 BK267; obtain ⟨hfz30_0, hfz30_1, hfz30_2, hfz30_3⟩ := fr4 BK267)); try go_wp2_with (first | (go_at_call 20; (with_reducible refine (sandglassref09_Check.calls k a0_0 a0_1 a0_2 a0_3 t269 _ A6.out).mono ?_); rintro e w29 ⟨rfl, hb⟩; replace BK267 := Aside0.mk (blk_below (bo BK267) hb); replace BK268 := Aside0.mk (blk_below (bo BK268) hb); replace HB := Aside0.mk (below_step (bl HB) hb); (try clear hb); (try clear hb2); (try clear hk); (try clear hi); obtain ⟨hcz30_0, hcz30_1, hcz30_2, hcz30_3⟩ := ce4 BK267; obtain ⟨hfz30_0, hfz30_1, hfz30_2, hfz30_3⟩ := fr4 BK267)))
    go_meet
    case rel => exact ⟨_, (true), (by first | (with_reducible rfl) | rfl | (simp; done) | (simp [*]; done)), H', ⟨by first | omega | exact Nat.le_refl _⟩, ⟨bo BK267⟩, ⟨bo BK268⟩, ⟨bl HB⟩⟩
  ·rw [if_neg c7] at H
   have c7b0 : (t269 == 0) = false := beq_eq_false_iff_ne.mpr c7
   have c7b1 : (t269 != 0) = true := bne_iff_ne.mpr c7
   (first | rw [c7b0] | (simp only [i64_w, i32_w]; rw [c7b0]) | skip)
   have H' := Aside0.mk H
   clear H
   have hnb31 := NB267_268.out
   have hnc31 := NB268_267.out
   obtain ⟨hcz32_0, hcz32_1, hcz32_2, hcz32_3⟩ := ce4 BK267
   obtain ⟨hfz32_0, hfz32_1, hfz32_2, hfz32_3⟩ := fr4 BK267
   go_wp2_with (first | (go_at_call 20; (with_reducible refine (sandglassref09_Check.calls k a0_0 a0_1 a0_2 a0_3 t269 _ A6.out).mono ?_); rintro e w33 ⟨rfl, hb⟩; replace BK267 := Aside0.mk (blk_below (bo BK267) hb); replace BK268 := Aside0.mk (blk_below (bo BK268) hb); replace HB := Aside0.mk (below_step (bl HB) hb); (try clear hb); (try clear hb2); (try clear hk); (try clear hi)))
   repeat (go_quiet (first | (go_at_call 20; (with_reducible refine (sandglassref09_Check.calls k a0_0 a0_1 a0_2 a0_3 t269 _ A6.out).mono ?_); rintro e w33 ⟨rfl, hb⟩; replace BK267 := Aside0.mk (blk_below (bo BK267) hb); replace BK268 := Aside0.mk (blk_below (bo BK268) hb); replace HB := Aside0.mk (below_step (bl HB) hb); (try clear hb); (try clear hb2); (try clear hk); (try clear hi))); try go_wp2_with (first | (go_at_call 20; (with_reducible refine (sandglassref09_Check.calls k a0_0 a0_1 a0_2 a0_3 t269 _ A6.out).mono ?_); rintro e w33 ⟨rfl, hb⟩; replace BK267 := Aside0.mk (blk_below (bo BK267) hb); replace BK268 := Aside0.mk (blk_below (bo BK268) hb); replace HB := Aside0.mk (below_step (bl HB) hb); (try clear hb); (try clear hb2); (try clear hk); (try clear hi))))
   go_meet
   case rel => exact ⟨_, (true), (by first | (with_reducible rfl) | rfl | (simp; done) | (simp [*]; done)), H', ⟨by first | omega | exact Nat.le_refl _⟩, ⟨bo BK267⟩, ⟨bo BK268⟩, ⟨bl HB⟩⟩
 case rest =>
  clear HC3
  try clear c7; try clear c7b0; try clear c7b1; try clear c8; try clear c8b0; try clear c8b1; try clear c10; try clear c11; try clear c11b0; try clear c11b1; try clear hcz13_0; try clear hcz13_1; try clear hcz13_2; try clear hcz13_3; try clear hcz15_0; try clear hcz15_1; try clear hcz15_2; try clear hcz15_3; try clear hcz16_0; try clear hcz16_1; try clear hcz16_2; try clear hcz16_3; try clear hcz18_0; try clear hcz18_1; try clear hcz18_2; try clear hcz18_3; try clear hcz20_0; try clear hcz20_1; try clear hcz20_2; try clear hcz20_3; try clear hcz21_0; try clear hcz21_1; try clear hcz21_2; try clear hcz21_3; try clear hcz23_0; try clear hcz23_1; try clear hcz23_2; try clear hcz23_3; try clear hcz25_0; try clear hcz25_1; try clear hcz25_2; try clear hcz25_3; try clear hcz26_0; try clear hcz26_1; try clear hcz26_2; try clear hcz26_3; try clear hcz28_0; try clear hcz28_1; try clear hcz28_2; try clear hcz28_3; try clear hcz30_0; try clear hcz30_1; try clear hcz30_2; try clear hcz30_3; try clear hcz32_0; try clear hcz32_1; try clear hcz32_2; try clear hcz32_3; try clear hfz13_0; try clear hfz13_1; try clear hfz13_2; try clear hfz13_3; try clear hfz15_0; try clear hfz15_1; try clear hfz15_2; try clear hfz15_3; try clear hfz16_0; try clear hfz16_1; try clear hfz16_2; try clear hfz16_3; try clear hfz18_0; try clear hfz18_1; try clear hfz18_2; try clear hfz18_3; try clear hfz20_0; try clear hfz20_1; try clear hfz20_2; try clear hfz20_3; try clear hfz21_0; try clear hfz21_1; try clear hfz21_2; try clear hfz21_3; try clear hfz23_0; try clear hfz23_1; try clear hfz23_2; try clear hfz23_3; try clear hfz25_0; try clear hfz25_1; try clear hfz25_2; try clear hfz25_3; try clear hfz26_0; try clear hfz26_1; try clear hfz26_2; try clear hfz26_3; try clear hfz28_0; try clear hfz28_1; try clear hfz28_2; try clear hfz28_3; try clear hfz30_0; try clear hfz30_1; try clear hfz30_2; try clear hfz30_3; try clear hfz32_0; try clear hfz32_1; try clear hfz32_2; try clear hfz32_3
  obtain ⟨kq, x32_2, rfl, HA, HJ2, BK267, BK268, HB⟩ := hcut
  cases kq with
  | zero => exact absurd HA.out (by simp [sandglassref13_May.j0])
  | succ kj2 =>
   have H := HA.out
   clear HA
   simp only [sandglassref13_May.j0] at H
   by_cases c34 : x32_2 = true
   ·subst c34
    rw [if_pos rfl] at H
    obtain rfl := Option.some.inj H
    go_wp2
    repeat (go_quiet (fail); try go_wp2)
    go_ret
    exact ⟨by first | (with_reducible rfl) | rfl | (simp [errW_none, errW_some] <;> rfl) | (simp [*, errW_none, errW_some] <;> rfl), bl HB⟩
   ·replace c34 := Bool.eq_false_iff.mpr c34
    subst c34
    rw [if_neg (show ¬ (false = true) by decide)] at H
    have H' := Aside0.mk H
    clear H
    go_wp2
    repeat (go_quiet (fail); try go_wp2)
    go_loopg [5, 6] kj2 (fun kq v5 v6 w' => ∃ (x5_2 : Int) (x6_2 : Int), v5 = .int .i64 x5_2 ∧ v6 = .int .i64 x6_2 ∧ Aside0 (sandglassref13_May.l0 kq x5_2 x6_2 a0_0 a0_1 a0_2 a0_3 a1_0 a1_1 l1_2 l1_3 = some r) ∧ Aside0 (kq ≤ kj2) ∧ Aside0 (w'.heap[gb267]? = some (.cells #[.int .i64 a0_0, .int .i64 a0_1, .int .i64 a0_2, .int .i64 a0_3] 23 (0, 0))) ∧ Aside0 (w'.heap[gb268]? = some (.cells #[.int .i64 a1_0, .int .i64 a1_1, (.slice A1_2 l1_2.length c1_2), (.slice A1_3 l1_3.length c1_3)] 27 (0, 0))) ∧ Aside0 (Below w.heap.size w w'))
    case atStart => exact ⟨(0), (0), (by first | (with_reducible rfl) | rfl | (simp; done) | (simp [*]; done)), (by first | (with_reducible rfl) | rfl | (simp; done) | (simp [*]; done)), H', ⟨Nat.le_refl _⟩, ⟨bo BK267⟩, ⟨bo BK268⟩, ⟨bl HB⟩⟩
    case round =>
     clear H'
     try clear c7; try clear c7b0; try clear c7b1; try clear c8; try clear c8b0; try clear c8b1; try clear c10; try clear c11; try clear c11b0; try clear c11b1; try clear c34; try clear hcz13_0; try clear hcz13_1; try clear hcz13_2; try clear hcz13_3; try clear hcz15_0; try clear hcz15_1; try clear hcz15_2; try clear hcz15_3; try clear hcz16_0; try clear hcz16_1; try clear hcz16_2; try clear hcz16_3; try clear hcz18_0; try clear hcz18_1; try clear hcz18_2; try clear hcz18_3; try clear hcz20_0; try clear hcz20_1; try clear hcz20_2; try clear hcz20_3; try clear hcz21_0; try clear hcz21_1; try clear hcz21_2; try clear hcz21_3; try clear hcz23_0; try clear hcz23_1; try clear hcz23_2; try clear hcz23_3; try clear hcz25_0; try clear hcz25_1; try clear hcz25_2; try clear hcz25_3; try clear hcz26_0; try clear hcz26_1; try clear hcz26_2; try clear hcz26_3; try clear hcz28_0; try clear hcz28_1; try clear hcz28_2; try clear hcz28_3; try clear hcz30_0; try clear hcz30_1; try clear hcz30_2; try clear hcz30_3; try clear hcz32_0; try clear hcz32_1; try clear hcz32_2; try clear hcz32_3; try clear hfz13_0; try clear hfz13_1; try clear hfz13_2; try clear hfz13_3; try clear hfz15_0; try clear hfz15_1; try clear hfz15_2; try clear hfz15_3; try clear hfz16_0; try clear hfz16_1; try clear hfz16_2; try clear hfz16_3; try clear hfz18_0; try clear hfz18_1; try clear hfz18_2; try clear hfz18_3; try clear hfz20_0; try clear hfz20_1; try clear hfz20_2; try clear hfz20_3; try clear hfz21_0; try clear hfz21_1; try clear hfz21_2; try clear hfz21_3; try clear hfz23_0; try clear hfz23_1; try clear hfz23_2; try clear hfz23_3; try clear hfz25_0; try clear hfz25_1; try clear hfz25_2; try clear hfz25_3; try clear hfz26_0; try clear hfz26_1; try clear hfz26_2; try clear hfz26_3; try clear hfz28_0; try clear hfz28_1; try clear hfz28_2; try clear hfz28_3; try clear hfz30_0; try clear hfz30_1; try clear hfz30_2; try clear hfz30_3; try clear hfz32_0; try clear hfz32_1; try clear hfz32_2; try clear hfz32_3
     obtain ⟨x5_2, x6_2, rfl, rfl, HA, HK2, BK267, BK268, HB⟩ := hrel
     cases gk with
     | zero => exact absurd HA.out (by simp [sandglassref13_May.l0])
     | succ k2 =>
      have H := HA.out
      clear HA
      simp only [sandglassref13_May.l0] at H
      by_cases c35 : x6_2 < (l1_3.length : Int)
      ·rw [if_pos c35] at H
       have c35b0 : decide (x6_2 < (l1_3.length : Int)) = true := decide_eq_true c35
       clear c35
       by_cases c36 : 0 ≤ x6_2
       ·rw [if_pos c36] at H
        have c36b0 : decide (0 ≤ x6_2) = true := decide_eq_true c36
        clear c36
        have HC37 := Aside0.mk H
        clear H
        have hnb38 := NB268_267.out
        have hnc38 := NB267_268.out
        obtain ⟨hcz39_0, hcz39_1, hcz39_2, hcz39_3⟩ := ce4 BK268
        obtain ⟨hfz39_0, hfz39_1, hfz39_2, hfz39_3⟩ := fr4 BK268
        have p271 : 0 ≤ (x6_2 : Int) := of_decide_eq_true (by first | (with_reducible assumption) | assumption)
        have q271 : x6_2 < (l1_3.length : Int) := of_decide_eq_true (by first | (with_reducible assumption) | assumption)
        obtain ⟨ad271, e271, hx271_0, hx271_1⟩ := at_T50 HR1_3.out x6_2 p271 q271
        cases e271
        replace hx271_0 := (HB.out.cell (World.block_lt_of_cell? w _ hx271_0)).trans hx271_0
        replace hx271_1 := (HB.out.cell (World.block_lt_of_cell? w _ hx271_1)).trans hx271_1
        replace p271 := eq_true p271
        replace q271 := eq_true q271
        go_upto_region 8 with (first | ((with_reducible refine gate_dst (N := 7) rfl ?_); (try (refine gate_guard (by rfl) ?_; dsimp only)); refine box_event ?hg (N := 7) ?hd (cs := #[.int .i64 0, .int .i64 0]) (t := 50) ?hr ?_; (case hd => rfl); (case hg => rfl); (case hr => first | (go_simp; done) | (go_simp; rfl)); intro gb272 hg w40 hbox hb; have BK272 := Aside0.mk (hbox); have GW272 := Aside0.mk ((by rw [hg]; exact (below_size (bl HB)) : w.heap.size ≤ gb272)); have GE272 := Aside0.mk ((by rw [hg]; exact (below_size (bl HB)) : w.heap.size ≤ gb272)); have NB267_272 := nb BK267 hg; have NB272_267 := bn BK267 hg; have NB268_272 := nb BK268 hg; have NB272_268 := bn BK268 hg; replace BK267 := Aside0.mk (blk_below (bo BK267) hb); replace BK268 := Aside0.mk (blk_below (bo BK268) hb); replace HB := Aside0.mk (below_step (bl HB) hb); clear hb hbox hg; have hnb41 := NB272_267.out; have hnc41 := NB267_272.out; have hnb42 := NB272_268.out; have hnc42 := NB268_272.out; obtain ⟨hcz43_0, hcz43_1⟩ := ce2 BK272; obtain ⟨hfz43_0, hfz43_1⟩ := fr2 BK272))
        repeat (go_quiet (first | ((with_reducible refine gate_dst (N := 7) rfl ?_); (try (refine gate_guard (by rfl) ?_; dsimp only)); refine box_event ?hg (N := 7) ?hd (cs := #[.int .i64 0, .int .i64 0]) (t := 50) ?hr ?_; (case hd => rfl); (case hg => rfl); (case hr => first | (go_simp; done) | (go_simp; rfl)); intro gb272 hg w40 hbox hb; have BK272 := Aside0.mk (hbox); have GW272 := Aside0.mk ((by rw [hg]; exact (below_size (bl HB)) : w.heap.size ≤ gb272)); have GE272 := Aside0.mk ((by rw [hg]; exact (below_size (bl HB)) : w.heap.size ≤ gb272)); have NB267_272 := nb BK267 hg; have NB272_267 := bn BK267 hg; have NB268_272 := nb BK268 hg; have NB272_268 := bn BK268 hg; replace BK267 := Aside0.mk (blk_below (bo BK267) hb); replace BK268 := Aside0.mk (blk_below (bo BK268) hb); replace HB := Aside0.mk (below_step (bl HB) hb); clear hb hbox hg; have hnb41 := NB272_267.out; have hnc41 := NB267_272.out; have hnb42 := NB272_268.out; have hnc42 := NB268_272.out; obtain ⟨hcz43_0, hcz43_1⟩ := ce2 BK272; obtain ⟨hfz43_0, hfz43_1⟩ := fr2 BK272)); go_upto_region 8 with (first | ((with_reducible refine gate_dst (N := 7) rfl ?_); (try (refine gate_guard (by rfl) ?_; dsimp only)); refine box_event ?hg (N := 7) ?hd (cs := #[.int .i64 0, .int .i64 0]) (t := 50) ?hr ?_; (case hd => rfl); (case hg => rfl); (case hr => first | (go_simp; done) | (go_simp; rfl)); intro gb272 hg w40 hbox hb; have BK272 := Aside0.mk (hbox); have GW272 := Aside0.mk ((by rw [hg]; exact (below_size (bl HB)) : w.heap.size ≤ gb272)); have GE272 := Aside0.mk ((by rw [hg]; exact (below_size (bl HB)) : w.heap.size ≤ gb272)); have NB267_272 := nb BK267 hg; have NB272_267 := bn BK267 hg; have NB268_272 := nb BK268 hg; have NB272_268 := bn BK268 hg; replace BK267 := Aside0.mk (blk_below (bo BK267) hb); replace BK268 := Aside0.mk (blk_below (bo BK268) hb); replace HB := Aside0.mk (below_step (bl HB) hb); clear hb hbox hg; have hnb41 := NB272_267.out; have hnc41 := NB267_272.out; have hnb42 := NB272_268.out; have hnc42 := NB268_272.out; obtain ⟨hcz43_0, hcz43_1⟩ := ce2 BK272; obtain ⟨hfz43_0, hfz43_1⟩ := fr2 BK272)))
        (try simp only [Act.put, List.setIfInBounds_toArray, List.set_cons_zero, List.set_cons_succ])
        go_cut [92] (fun v92 wc => ∃ (kq : Nat) (x92_36 : Bool), v92 = .bool x92_36 ∧ Aside0 (sandglassref13_May.j2 kq x5_2 x6_2 x92_36 a0_0 a0_1 a0_2 a0_3 a1_0 a1_1 l1_2 l1_3 ((rd_T50 l1_3 x6_2).f0) ((rd_T50 l1_3 x6_2).f1) = some r) ∧ Aside0 (kq ≤ k2) ∧ Aside0 (wc.heap[gb267]? = some (.cells #[.int .i64 a0_0, .int .i64 a0_1, .int .i64 a0_2, .int .i64 a0_3] 23 (0, 0))) ∧ Aside0 (wc.heap[gb268]? = some (.cells #[.int .i64 a1_0, .int .i64 a1_1, (.slice A1_2 l1_2.length c1_2), (.slice (some ad271) l1_3.length c1_3)] 27 (0, 0))) ∧ Aside0 (wc.heap[gb272]? = some (.cells #[.int .i64 ((rd_T50 l1_3 x6_2).f0), .int .i64 ((rd_T50 l1_3 x6_2).f1)] 50 (0, 0))) ∧ Aside0 (Below w.heap.size w wc))
        case first =>
         have H := HC37.out
         clear HC37
         by_cases c44 : ((rd_T50 l1_3 x6_2).f0) < 0
         ·rw [if_pos c44] at H
          have c44b0 : decide (((rd_T50 l1_3 x6_2).f0) < 0) = true := decide_eq_true c44
          clear c44
          (first | rw [c44b0] | (simp only [i64_w, i32_w]; rw [c44b0]) | skip)
          have H' := Aside0.mk H
          clear H
          have hnb45 := NB272_267.out
          have hnc45 := NB267_272.out
          have hnb46 := NB272_268.out
          have hnc46 := NB268_272.out
          obtain ⟨hcz47_0, hcz47_1⟩ := ce2 BK272
          obtain ⟨hfz47_0, hfz47_1⟩ := fr2 BK272
          go_wp2
          repeat (go_quiet (fail); try go_wp2)
          go_meet
          case rel => exact ⟨_, (true), (by first | (with_reducible rfl) | rfl | (simp; done) | (simp [*]; done)), H', ⟨by have := HJ2.out; have := HK2.out; first | omega | exact Nat.le_refl _⟩, ⟨by (with_reducible repeat (first | refine blk_drewN ?_ _ | refine blk_drew ?_ | refine blk_alloc ?_ _)); refine blk_far ?_ NB267_272.out _; (with_reducible repeat (first | refine blk_drewN ?_ _ | refine blk_drew ?_ | refine blk_alloc ?_ _)); refine blk_far ?_ NB267_272.out _; (with_reducible repeat (first | refine blk_drewN ?_ _ | refine blk_drew ?_ | refine blk_alloc ?_ _)); exact BK267.out⟩, ⟨by (with_reducible repeat (first | refine blk_drewN ?_ _ | refine blk_drew ?_ | refine blk_alloc ?_ _)); refine blk_far ?_ NB268_272.out _; (with_reducible repeat (first | refine blk_drewN ?_ _ | refine blk_drew ?_ | refine blk_alloc ?_ _)); refine blk_far ?_ NB268_272.out _; (with_reducible repeat (first | refine blk_drewN ?_ _ | refine blk_drew ?_ | refine blk_alloc ?_ _)); exact BK268.out⟩, ⟨by (with_reducible repeat (first | refine blk_drewN ?_ _ | refine blk_drew ?_ | refine blk_alloc ?_ _)); refine blk_put (cs := #[.int .i64 ((rd_T50 l1_3 x6_2).f0), .int .i64 0]) ?_ 1 _ rfl; (with_reducible repeat (first | refine blk_drewN ?_ _ | refine blk_drew ?_ | refine blk_alloc ?_ _)); refine blk_put (cs := #[.int .i64 0, .int .i64 0]) ?_ 0 _ rfl; (with_reducible repeat (first | refine blk_drewN ?_ _ | refine blk_drew ?_ | refine blk_alloc ?_ _)); exact BK272.out⟩, ⟨bl HB⟩⟩
         ·rw [if_neg c44] at H
          have c44b0 : decide (((rd_T50 l1_3 x6_2).f0) < 0) = false := decide_eq_false c44
          clear c44
          (first | rw [c44b0] | (simp only [i64_w, i32_w]; rw [c44b0]) | skip)
          by_cases c48 : ((rd_T50 l1_3 x6_2).f0) > a1_0
          ·rw [if_pos c48] at H
           have c48b0 : decide (a1_0 < ((rd_T50 l1_3 x6_2).f0)) = true := decide_eq_true c48
           clear c48
           have H' := Aside0.mk H
           clear H
           have hnb49 := NB272_267.out
           have hnc49 := NB267_272.out
           have hnb50 := NB272_268.out
           have hnc50 := NB268_272.out
           obtain ⟨hcz51_0, hcz51_1⟩ := ce2 BK272
           obtain ⟨hfz51_0, hfz51_1⟩ := fr2 BK272
           have hnb52 := NB268_267.out
           have hnc52 := NB267_268.out
           obtain ⟨hcz53_0, hcz53_1, hcz53_2, hcz53_3⟩ := ce4 BK268
           obtain ⟨hfz53_0, hfz53_1, hfz53_2, hfz53_3⟩ := fr4 BK268
           go_wp2
           repeat (go_quiet (fail); try go_wp2)
           go_meet
           case rel => exact ⟨_, (true), (by first | (with_reducible rfl) | rfl | (simp; done) | (simp [*]; done)), H', ⟨by have := HJ2.out; have := HK2.out; first | omega | exact Nat.le_refl _⟩, ⟨by (with_reducible repeat (first | refine blk_drewN ?_ _ | refine blk_drew ?_ | refine blk_alloc ?_ _)); refine blk_far ?_ NB267_272.out _; (with_reducible repeat (first | refine blk_drewN ?_ _ | refine blk_drew ?_ | refine blk_alloc ?_ _)); refine blk_far ?_ NB267_272.out _; (with_reducible repeat (first | refine blk_drewN ?_ _ | refine blk_drew ?_ | refine blk_alloc ?_ _)); exact BK267.out⟩, ⟨by (with_reducible repeat (first | refine blk_drewN ?_ _ | refine blk_drew ?_ | refine blk_alloc ?_ _)); refine blk_far ?_ NB268_272.out _; (with_reducible repeat (first | refine blk_drewN ?_ _ | refine blk_drew ?_ | refine blk_alloc ?_ _)); refine blk_far ?_ NB268_272.out _; (with_reducible repeat (first | refine blk_drewN ?_ _ | refine blk_drew ?_ | refine blk_alloc ?_ _)); exact BK268.out⟩, ⟨by (with_reducible repeat (first | refine blk_drewN ?_ _ | refine blk_drew ?_ | refine blk_alloc ?_ _)); refine blk_put (cs := #[.int .i64 ((rd_T50 l1_3 x6_2).f0), .int .i64 0]) ?_ 1 _ rfl; (with_reducible repeat (first | refine blk_drewN ?_ _ | refine blk_drew ?_ | refine blk_alloc ?_ _)); refine blk_put (cs := #[.int .i64 0, .int .i64 0]) ?_ 0 _ rfl; (with_reducible repeat (first | refine blk_drewN ?_ _ | refine blk_drew ?_ | refine blk_alloc ?_ _)); exact BK272.out⟩, ⟨bl HB⟩⟩
          ·rw [if_neg c48] at H
           have c48b0 : decide (a1_0 < ((rd_T50 l1_3 x6_2).f0)) = false := decide_eq_false c48
           clear c48
           by_cases c54 : ((rd_T50 l1_3 x6_2).f0) ≤ (wrap64 (a1_0 - a0_2))
           ·rw [if_pos c54] at H
            have c54b0 : decide (((rd_T50 l1_3 x6_2).f0) ≤ (wrap64 (a1_0 - a0_2))) = true := decide_eq_true c54
            clear c54
            have H' := Aside0.mk H
            clear H
            have hnb55 := NB272_267.out
            have hnc55 := NB267_272.out
            have hnb56 := NB272_268.out
            have hnc56 := NB268_272.out
            obtain ⟨hcz57_0, hcz57_1⟩ := ce2 BK272
            obtain ⟨hfz57_0, hfz57_1⟩ := fr2 BK272
            have hnb58 := NB268_267.out
            have hnc58 := NB267_268.out
            obtain ⟨hcz59_0, hcz59_1, hcz59_2, hcz59_3⟩ := ce4 BK268
            obtain ⟨hfz59_0, hfz59_1, hfz59_2, hfz59_3⟩ := fr4 BK268
            obtain ⟨hcz60_0, hcz60_1, hcz60_2, hcz60_3⟩ := ce4 BK267
            obtain ⟨hfz60_0, hfz60_1, hfz60_2, hfz60_3⟩ := fr4 BK267
            go_wp2
            repeat (go_quiet (fail); try go_wp2)
            go_meet
            case rel => exact ⟨_, (true), (by first | (with_reducible rfl) | rfl | (simp; done) | (simp [*]; done)), H', ⟨by have := HJ2.out; have := HK2.out; first | omega | exact Nat.le_refl _⟩, ⟨by (with_reducible repeat (first | refine blk_drewN ?_ _ | refine blk_drew ?_ | refine blk_alloc ?_ _)); refine blk_far ?_ NB267_272.out _; (with_reducible repeat (first | refine blk_drewN ?_ _ | refine blk_drew ?_ | refine blk_alloc ?_ _)); refine blk_far ?_ NB267_272.out _; (with_reducible repeat (first | refine blk_drewN ?_ _ | refine blk_drew ?_ | refine blk_alloc ?_ _)); exact BK267.out⟩, ⟨by (with_reducible repeat (first | refine blk_drewN ?_ _ | refine blk_drew ?_ | refine blk_alloc ?_ _)); refine blk_far ?_ NB268_272.out _; (with_reducible repeat (first | refine blk_drewN ?_ _ | refine blk_drew ?_ | refine blk_alloc ?_ _)); refine blk_far ?_ NB268_272.out _; (with_reducible repeat (first | refine blk_drewN ?_ _ | refine blk_drew ?_ | refine blk_alloc ?_ _)); exact BK268.out⟩, ⟨by (with_reducible repeat (first | refine blk_drewN ?_ _ | refine blk_drew ?_ | refine blk_alloc ?_ _)); refine blk_put (cs := #[.int .i64 ((rd_T50 l1_3 x6_2).f0), .int .i64 0]) ?_ 1 _ rfl; (with_reducible repeat (first | refine blk_drewN ?_ _ | refine blk_drew ?_ | refine blk_alloc ?_ _)); refine blk_put (cs := #[.int .i64 0, .int .i64 0]) ?_ 0 _ rfl; (with_reducible repeat (first | refine blk_drewN ?_ _ | refine blk_drew ?_ | refine blk_alloc ?_ _)); exact BK272.out⟩, ⟨bl HB⟩⟩
           ·rw [if_neg c54] at H
            have c54b0 : decide (((rd_T50 l1_3 x6_2).f0) ≤ (wrap64 (a1_0 - a0_2))) = false := decide_eq_false c54
            clear c54
            by_cases c61 : x6_2 > 0
            ·rw [if_pos c61] at H
             have c61b0 : decide (0 < x6_2) = true := decide_eq_true c61
             clear c61
             obtain ⟨ji62, hji62⟩ : ∃ j_ : Int, (wrap64 (x6_2 - 1)) = j_ := ⟨_, rfl⟩
             replace H : (if 0 ≤ (ji62) then (if (ji62) < (l1_3.length : Int) then (if ((rd_T50 l1_3 (ji62)).f0) ≥ ((rd_T50 l1_3 x6_2).f0) then (sandglassref13_May.j2 k2 x5_2 x6_2 true a0_0 a0_1 a0_2 a0_3 a1_0 a1_1 l1_2 l1_3 ((rd_T50 l1_3 x6_2).f0) ((rd_T50 l1_3 x6_2).f1)) else (if ((rd_T50 l1_3 x6_2).f1) < 1 then (sandglassref13_May.j2 k2 x5_2 x6_2 true a0_0 a0_1 a0_2 a0_3 a1_0 a1_1 l1_2 l1_3 ((rd_T50 l1_3 x6_2).f0) ((rd_T50 l1_3 x6_2).f1)) else (sandglassref13_May.j2 k2 x5_2 x6_2 (decide (((rd_T50 l1_3 x6_2).f1) > a0_1)) a0_0 a0_1 a0_2 a0_3 a1_0 a1_1 l1_2 l1_3 ((rd_T50 l1_3 x6_2).f0) ((rd_T50 l1_3 x6_2).f1)))) else (none)) else (none)) = some r := by first | (rw [hji62] at H; exact H) | (simp only [hji62] at H ⊢; exact H)
             have hji62w : (IntKind.i64.wrap (x6_2 - 1)) = ji62 := (i64_w _).trans hji62
             by_cases c63 : 0 ≤ (ji62)
             ·rw [if_pos c63] at H
              have c63b0 : decide (0 ≤ (ji62)) = true := decide_eq_true c63
              clear c63
              by_cases c64 : (ji62) < (l1_3.length : Int)
              ·rw [if_pos c64] at H
               have c64b0 : decide ((ji62) < (l1_3.length : Int)) = true := decide_eq_true c64
               clear c64
               by_cases c65 : ((rd_T50 l1_3 (ji62)).f0) ≥ ((rd_T50 l1_3 x6_2).f0)
               ·rw [if_pos c65] at H
                have c65b0 : decide (((rd_T50 l1_3 x6_2).f0) ≤ ((rd_T50 l1_3 (ji62)).f0)) = true := decide_eq_true c65
                clear c65
                have H' := Aside0.mk H
                clear H
                have hnb66 := NB272_267.out
                have hnc66 := NB267_272.out
                have hnb67 := NB272_268.out
                have hnc67 := NB268_272.out
                obtain ⟨hcz68_0, hcz68_1⟩ := ce2 BK272
                obtain ⟨hfz68_0, hfz68_1⟩ := fr2 BK272
                have hnb69 := NB268_267.out
                have hnc69 := NB267_268.out
                obtain ⟨hcz70_0, hcz70_1, hcz70_2, hcz70_3⟩ := ce4 BK268
                obtain ⟨hfz70_0, hfz70_1, hfz70_2, hfz70_3⟩ := fr4 BK268
                obtain ⟨hcz71_0, hcz71_1, hcz71_2, hcz71_3⟩ := ce4 BK267
                obtain ⟨hfz71_0, hfz71_1, hfz71_2, hfz71_3⟩ := fr4 BK267
                have p273 : 0 ≤ ((ji62) : Int) := of_decide_eq_true (by first | (with_reducible assumption) | assumption)
                have q273 : (ji62) < (l1_3.length : Int) := of_decide_eq_true (by first | (with_reducible assumption) | assumption)
                obtain ⟨ad273, e273, hx273_0, hx273_1⟩ := at_T50 HR1_3.out (ji62) p273 q273
                obtain rfl : ad271 = ad273 := (by injection e273)
                have hn273_0 : ad271.block ≠ gb272 := Nat.ne_of_lt (Nat.lt_of_lt_of_le (by have := World.block_lt_of_cell? _ _ hx273_0; first | rwa [add_block] at this | exact this) GW272.out)
                have hn273_1 : ad271.block ≠ gb272 := Nat.ne_of_lt (Nat.lt_of_lt_of_le (by have := World.block_lt_of_cell? _ _ hx273_0; first | rwa [add_block] at this | exact this) GW272.out)
                replace hx273_0 := (HB.out.cell (World.block_lt_of_cell? w _ hx273_0)).trans hx273_0
                replace hx273_1 := (HB.out.cell (World.block_lt_of_cell? w _ hx273_1)).trans hx273_1
                replace hx273_0 := (cell_far (p := ⟨gb272, 0, none⟩) (by first | (rw [add_block]; exact hn273_0) | (show (Addr.add _ _).block ≠ _; rw [add_block]; exact hn273_0) | exact hn273_0) (.int .i64 ((rd_T50 l1_3 x6_2).f0))).trans hx273_0
                replace hx273_1 := (cell_far (p := ⟨gb272, 0, none⟩) (by first | (rw [add_block]; exact hn273_0) | (show (Addr.add _ _).block ≠ _; rw [add_block]; exact hn273_0) | exact hn273_0) (.int .i64 ((rd_T50 l1_3 x6_2).f0))).trans hx273_1
                replace hx273_0 := (cell_far (p := ⟨gb272, 1, none⟩) (by first | (rw [add_block]; exact hn273_1) | (show (Addr.add _ _).block ≠ _; rw [add_block]; exact hn273_1) | exact hn273_1) (.int .i64 ((rd_T50 l1_3 x6_2).f1))).trans hx273_0
                replace hx273_1 := (cell_far (p := ⟨gb272, 1, none⟩) (by first | (rw [add_block]; exact hn273_1) | (show (Addr.add _ _).block ≠ _; rw [add_block]; exact hn273_1) | exact hn273_1) (.int .i64 ((rd_T50 l1_3 x6_2).f1))).trans hx273_1
                (try have hy273_0 := fun (n_ : Nat) => (show ((((w40.drewN n_).setCell ⟨gb272, 0, none⟩ (.int .i64 ((rd_T50 l1_3 x6_2).f0))).setCell ⟨gb272, 1, none⟩ (.int .i64 ((rd_T50 l1_3 x6_2).f1)))).cell? _ = some _ from hx273_0))
                (try have hy273_1 := fun (n_ : Nat) => (show ((((w40.drewN n_).setCell ⟨gb272, 0, none⟩ (.int .i64 ((rd_T50 l1_3 x6_2).f0))).setCell ⟨gb272, 1, none⟩ (.int .i64 ((rd_T50 l1_3 x6_2).f1)))).cell? _ = some _ from hx273_1))
                clear hn273_0
                clear hn273_1
                replace p273 := eq_true p273
                replace q273 := eq_true q273
                go_wp2
                repeat (go_quiet (fail); try go_wp2)
                go_meet
                case rel => exact ⟨_, (true), (by first | (with_reducible rfl) | rfl | (simp; done) | (simp [*]; done)), H', ⟨by have := HJ2.out; have := HK2.out; first | omega | exact Nat.le_refl _⟩, ⟨by (with_reducible repeat (first | refine blk_drewN ?_ _ | refine blk_drew ?_ | refine blk_alloc ?_ _)); refine blk_far ?_ NB267_272.out _; (with_reducible repeat (first | refine blk_drewN ?_ _ | refine blk_drew ?_ | refine blk_alloc ?_ _)); refine blk_far ?_ NB267_272.out _; (with_reducible repeat (first | refine blk_drewN ?_ _ | refine blk_drew ?_ | refine blk_alloc ?_ _)); exact BK267.out⟩, ⟨by (with_reducible repeat (first | refine blk_drewN ?_ _ | refine blk_drew ?_ | refine blk_alloc ?_ _)); refine blk_far ?_ NB268_272.out _; (with_reducible repeat (first | refine blk_drewN ?_ _ | refine blk_drew ?_ | refine blk_alloc ?_ _)); refine blk_far ?_ NB268_272.out _; (with_reducible repeat (first | refine blk_drewN ?_ _ | refine blk_drew ?_ | refine blk_alloc ?_ _)); exact BK268.out⟩, ⟨by (with_reducible repeat (first | refine blk_drewN ?_ _ | refine blk_drew ?_ | refine blk_alloc ?_ _)); refine blk_put (cs := #[.int .i64 ((rd_T50 l1_3 x6_2).f0), .int .i64 0]) ?_ 1 _ rfl; (with_reducible repeat (first | refine blk_drewN ?_ _ | refine blk_drew ?_ | refine blk_alloc ?_ _)); refine blk_put (cs := #[.int .i64 0, .int .i64 0]) ?_ 0 _ rfl; (with_reducible repeat (first | refine blk_drewN ?_ _ | refine blk_drew ?_ | refine blk_alloc ?_ _)); exact BK272.out⟩, ⟨bl HB⟩⟩
               ·rw [if_neg c65] at H
                have c65b0 : decide (((rd_T50 l1_3 x6_2).f0) ≤ ((rd_T50 l1_3 (ji62)).f0)) = false := decide_eq_false c65
                clear c65
                by_cases c72 : ((rd_T50 l1_3 x6_2).f1) < 1
                ·rw [if_pos c72] at H
                 have c72b0 : decide (((rd_T50 l1_3 x6_2).f1) < 1) = true := decide_eq_true c72
                 clear c72
                 have H' := Aside0.mk H
                 clear H
                 have hnb73 := NB272_267.out
                 have hnc73 := NB267_272.out
                 have hnb74 := NB272_268.out
                 have hnc74 := NB268_272.out
                 obtain ⟨hcz75_0, hcz75_1⟩ := ce2 BK272
                 obtain ⟨hfz75_0, hfz75_1⟩ := fr2 BK272
                 have hnb76 := NB268_267.out
                 have hnc76 := NB267_268.out
                 obtain ⟨hcz77_0, hcz77_1, hcz77_2, hcz77_3⟩ := ce4 BK268
                 obtain ⟨hfz77_0, hfz77_1, hfz77_2, hfz77_3⟩ := fr4 BK268
                 obtain ⟨hcz78_0, hcz78_1, hcz78_2, hcz78_3⟩ := ce4 BK267
                 obtain ⟨hfz78_0, hfz78_1, hfz78_2, hfz78_3⟩ := fr4 BK267
                 have p273 : 0 ≤ ((ji62) : Int) := of_decide_eq_true (by first | (with_reducible assumption) | assumption)
                 have q273 : (ji62) < (l1_3.length : Int) := of_decide_eq_true (by first | (with_reducible assumption) | assumption)
                 obtain ⟨ad273, e273, hx273_0, hx273_1⟩ := at_T50 HR1_3.out (ji62) p273 q273
                 obtain rfl : ad271 = ad273 := (by injection e273)
                 have hn273_0 : ad271.block ≠ gb272 := Nat.ne_of_lt (Nat.lt_of_lt_of_le (by have := World.block_lt_of_cell? _ _ hx273_0; first | rwa [add_block] at this | exact this) GW272.out)
                 have hn273_1 : ad271.block ≠ gb272 := Nat.ne_of_lt (Nat.lt_of_lt_of_le (by have := World.block_lt_of_cell? _ _ hx273_0; first | rwa [add_block] at this | exact this) GW272.out)
                 replace hx273_0 := (HB.out.cell (World.block_lt_of_cell? w _ hx273_0)).trans hx273_0
                 replace hx273_1 := (HB.out.cell (World.block_lt_of_cell? w _ hx273_1)).trans hx273_1
                 replace hx273_0 := (cell_far (p := ⟨gb272, 0, none⟩) (by first | (rw [add_block]; exact hn273_0) | (show (Addr.add _ _).block ≠ _; rw [add_block]; exact hn273_0) | exact hn273_0) (.int .i64 ((rd_T50 l1_3 x6_2).f0))).trans hx273_0
                 replace hx273_1 := (cell_far (p := ⟨gb272, 0, none⟩) (by first | (rw [add_block]; exact hn273_0) | (show (Addr.add _ _).block ≠ _; rw [add_block]; exact hn273_0) | exact hn273_0) (.int .i64 ((rd_T50 l1_3 x6_2).f0))).trans hx273_1
                 replace hx273_0 := (cell_far (p := ⟨gb272, 1, none⟩) (by first | (rw [add_block]; exact hn273_1) | (show (Addr.add _ _).block ≠ _; rw [add_block]; exact hn273_1) | exact hn273_1) (.int .i64 ((rd_T50 l1_3 x6_2).f1))).trans hx273_0
                 replace hx273_1 := (cell_far (p := ⟨gb272, 1, none⟩) (by first | (rw [add_block]; exact hn273_1) | (show (Addr.add _ _).block ≠ _; rw [add_block]; exact hn273_1) | exact hn273_1) (.int .i64 ((rd_T50 l1_3 x6_2).f1))).trans hx273_1
                 (try have hy273_0 := fun (n_ : Nat) => (show ((((w40.drewN n_).setCell ⟨gb272, 0, none⟩ (.int .i64 ((rd_T50 l1_3 x6_2).f0))).setCell ⟨gb272, 1, none⟩ (.int .i64 ((rd_T50 l1_3 x6_2).f1)))).cell? _ = some _ from hx273_0))
                 (try have hy273_1 := fun (n_ : Nat) => (show ((((w40.drewN n_).setCell ⟨gb272, 0, none⟩ (.int .i64 ((rd_T50 l1_3 x6_2).f0))).setCell ⟨gb272, 1, none⟩ (.int .i64 ((rd_T50 l1_3 x6_2).f1)))).cell? _ = some _ from hx273_1))
                 clear hn273_0
                 clear hn273_1
                 replace p273 := eq_true p273
                 replace q273 := eq_true q273
                 go_wp2
                 repeat (go_quiet (fail); try go_wp2)
                 go_meet
                 case rel => exact ⟨_, (true), (by first | (with_reducible rfl) | rfl | (simp; done) | (simp [*]; done)), H', ⟨by have := HJ2.out; have := HK2.out; first | omega | exact Nat.le_refl _⟩, ⟨by (with_reducible repeat (first | refine blk_drewN ?_ _ | refine blk_drew ?_ | refine blk_alloc ?_ _)); refine blk_far ?_ NB267_272.out _; (with_reducible repeat (first | refine blk_drewN ?_ _ | refine blk_drew ?_ | refine blk_alloc ?_ _)); refine blk_far ?_ NB267_272.out _; (with_reducible repeat (first | refine blk_drewN ?_ _ | refine blk_drew ?_ | refine blk_alloc ?_ _)); exact BK267.out⟩, ⟨by (with_reducible repeat (first | refine blk_drewN ?_ _ | refine blk_drew ?_ | refine blk_alloc ?_ _)); refine blk_far ?_ NB268_272.out _; (with_reducible repeat (first | refine blk_drewN ?_ _ | refine blk_drew ?_ | refine blk_alloc ?_ _)); refine blk_far ?_ NB268_272.out _; (with_reducible repeat (first | refine blk_drewN ?_ _ | refine blk_drew ?_ | refine blk_alloc ?_ _)); exact BK268.out⟩, ⟨by (with_reducible repeat (first | refine blk_drewN ?_ _ | refine blk_drew ?_ | refine blk_alloc ?_ _)); refine blk_put (cs := #[.int .i64 ((rd_T50 l1_3 x6_2).f0), .int .i64 0]) ?_ 1 _ rfl; (with_reducible repeat (first | refine blk_drewN ?_ _ | refine blk_drew ?_ | refine blk_alloc ?_ _)); refine blk_put (cs := #[.int .i64 0, .int .i64 0]) ?_ 0 _ rfl; (with_reducible repeat (first | refine blk_drewN ?_ _ | refine blk_drew ?_ | refine blk_alloc ?_ _)); exact BK272.out⟩, ⟨bl HB⟩⟩
                ·rw [if_neg c72] at H
                 have c72b0 : decide (((rd_T50 l1_3 x6_2).f1) < 1) = false := decide_eq_false c72
                 clear c72
                 have H' := Aside0.mk H
                 clear H
                 have hnb79 := NB272_267.out
                 have hnc79 := NB267_272.out
                 have hnb80 := NB272_268.out
                 have hnc80 := NB268_272.out
                 obtain ⟨hcz81_0, hcz81_1⟩ := ce2 BK272
                 obtain ⟨hfz81_0, hfz81_1⟩ := fr2 BK272
                 have hnb82 := NB268_267.out
                 have hnc82 := NB267_268.out
                 obtain ⟨hcz83_0, hcz83_1, hcz83_2, hcz83_3⟩ := ce4 BK268
                 obtain ⟨hfz83_0, hfz83_1, hfz83_2, hfz83_3⟩ := fr4 BK268
                 obtain ⟨hcz84_0, hcz84_1, hcz84_2, hcz84_3⟩ := ce4 BK267
                 obtain ⟨hfz84_0, hfz84_1, hfz84_2, hfz84_3⟩ := fr4 BK267
                 have p273 : 0 ≤ ((ji62) : Int) := of_decide_eq_true (by first | (with_reducible assumption) | assumption)
                 have q273 : (ji62) < (l1_3.length : Int) := of_decide_eq_true (by first | (with_reducible assumption) | assumption)
                 obtain ⟨ad273, e273, hx273_0, hx273_1⟩ := at_T50 HR1_3.out (ji62) p273 q273
                 obtain rfl : ad271 = ad273 := (by injection e273)
                 have hn273_0 : ad271.block ≠ gb272 := Nat.ne_of_lt (Nat.lt_of_lt_of_le (by have := World.block_lt_of_cell? _ _ hx273_0; first | rwa [add_block] at this | exact this) GW272.out)
                 have hn273_1 : ad271.block ≠ gb272 := Nat.ne_of_lt (Nat.lt_of_lt_of_le (by have := World.block_lt_of_cell? _ _ hx273_0; first | rwa [add_block] at this | exact this) GW272.out)
                 replace hx273_0 := (HB.out.cell (World.block_lt_of_cell? w _ hx273_0)).trans hx273_0
                 replace hx273_1 := (HB.out.cell (World.block_lt_of_cell? w _ hx273_1)).trans hx273_1
                 replace hx273_0 := (cell_far (p := ⟨gb272, 0, none⟩) (by first | (rw [add_block]; exact hn273_0) | (show (Addr.add _ _).block ≠ _; rw [add_block]; exact hn273_0) | exact hn273_0) (.int .i64 ((rd_T50 l1_3 x6_2).f0))).trans hx273_0
                 replace hx273_1 := (cell_far (p := ⟨gb272, 0, none⟩) (by first | (rw [add_block]; exact hn273_0) | (show (Addr.add _ _).block ≠ _; rw [add_block]; exact hn273_0) | exact hn273_0) (.int .i64 ((rd_T50 l1_3 x6_2).f0))).trans hx273_1
                 replace hx273_0 := (cell_far (p := ⟨gb272, 1, none⟩) (by first | (rw [add_block]; exact hn273_1) | (show (Addr.add _ _).block ≠ _; rw [add_block]; exact hn273_1) | exact hn273_1) (.int .i64 ((rd_T50 l1_3 x6_2).f1))).trans hx273_0
                 replace hx273_1 := (cell_far (p := ⟨gb272, 1, none⟩) (by first | (rw [add_block]; exact hn273_1) | (show (Addr.add _ _).block ≠ _; rw [add_block]; exact hn273_1) | exact hn273_1) (.int .i64 ((rd_T50 l1_3 x6_2).f1))).trans hx273_1
                 (try have hy273_0 := fun (n_ : Nat) => (show ((((w40.drewN n_).setCell ⟨gb272, 0, none⟩ (.int .i64 ((rd_T50 l1_3 x6_2).f0))).setCell ⟨gb272, 1, none⟩ (.int .i64 ((rd_T50 l1_3 x6_2).f1)))).cell? _ = some _ from hx273_0))
                 (try have hy273_1 := fun (n_ : Nat) => (show ((((w40.drewN n_).setCell ⟨gb272, 0, none⟩ (.int .i64 ((rd_T50 l1_3 x6_2).f0))).setCell ⟨gb272, 1, none⟩ (.int .i64 ((rd_T50 l1_3 x6_2).f1)))).cell? _ = some _ from hx273_1))
                 clear hn273_0
                 clear hn273_1
                 replace p273 := eq_true p273
                 replace q273 := eq_true q273
                 go_wp2
                 repeat (go_quiet (fail); try go_wp2)
                 go_meet
                 case rel => exact ⟨_, (decide (((rd_T50 l1_3 x6_2).f1) > a0_1)), (by first | (with_reducible rfl) | rfl | (simp; done) | (simp [*]; done)), H', ⟨by have := HJ2.out; have := HK2.out; first | omega | exact Nat.le_refl _⟩, ⟨by (with_reducible repeat (first | refine blk_drewN ?_ _ | refine blk_drew ?_ | refine blk_alloc ?_ _)); refine blk_far ?_ NB267_272.out _; (with_reducible repeat (first | refine blk_drewN ?_ _ | refine blk_drew ?_ | refine blk_alloc ?_ _)); refine blk_far ?_ NB267_272.out _; (with_reducible repeat (first | refine blk_drewN ?_ _ | refine blk_drew ?_ | refine blk_alloc ?_ _)); exact BK267.out⟩, ⟨by (with_reducible repeat (first | refine blk_drewN ?_ _ | refine blk_drew ?_ | refine blk_alloc ?_ _)); refine blk_far ?_ NB268_272.out _; (with_reducible repeat (first | refine blk_drewN ?_ _ | refine blk_drew ?_ | refine blk_alloc ?_ _)); refine blk_far ?_ NB268_272.out _; (with_reducible repeat (first | refine blk_drewN ?_ _ | refine blk_drew ?_ | refine blk_alloc ?_ _)); exact BK268.out⟩, ⟨by (with_reducible repeat (first | refine blk_drewN ?_ _ | refine blk_drew ?_ | refine blk_alloc ?_ _)); refine blk_put (cs := #[.int .i64 ((rd_T50 l1_3 x6_2).f0), .int .i64 0]) ?_ 1 _ rfl; (with_reducible repeat (first | refine blk_drewN ?_ _ | refine blk_drew ?_ | refine blk_alloc ?_ _)); refine blk_put (cs := #[.int .i64 0, .int .i64 0]) ?_ 0 _ rfl; (with_reducible repeat (first | refine blk_drewN ?_ _ | refine blk_drew ?_ | refine blk_alloc ?_ _)); exact BK272.out⟩, ⟨bl HB⟩⟩
              ·rw [if_neg c64] at H
               exact absurd H (by simp)
             ·rw [if_neg c63] at H
              exact absurd H (by simp)
            ·rw [if_neg c61] at H
             have c61b0 : decide (0 < x6_2) = false := decide_eq_false c61
             clear c61
             by_cases c85 : ((rd_T50 l1_3 x6_2).f1) < 1
             ·rw [if_pos c85] at H
              have c85b0 : decide (((rd_T50 l1_3 x6_2).f1) < 1) = true := decide_eq_true c85
              clear c85
              have H' := Aside0.mk H
              clear H
              have hnb86 := NB272_267.out
              have hnc86 := NB267_272.out
              have hnb87 := NB272_268.out
              have hnc87 := NB268_272.out
              obtain ⟨hcz88_0, hcz88_1⟩ := ce2 BK272
              obtain ⟨hfz88_0, hfz88_1⟩ := fr2 BK272
              have hnb89 := NB268_267.out
              have hnc89 := NB267_268.out
              obtain ⟨hcz90_0, hcz90_1, hcz90_2, hcz90_3⟩ := ce4 BK268
              obtain ⟨hfz90_0, hfz90_1, hfz90_2, hfz90_3⟩ := fr4 BK268
              obtain ⟨hcz91_0, hcz91_1, hcz91_2, hcz91_3⟩ := ce4 BK267
              obtain ⟨hfz91_0, hfz91_1, hfz91_2, hfz91_3⟩ := fr4 BK267
              go_wp2
              repeat (go_quiet (fail); try go_wp2)
              go_meet
              case rel => exact ⟨_, (true), (by first | (with_reducible rfl) | rfl | (simp; done) | (simp [*]; done)), H', ⟨by have := HJ2.out; have := HK2.out; first | omega | exact Nat.le_refl _⟩, ⟨by (with_reducible repeat (first | refine blk_drewN ?_ _ | refine blk_drew ?_ | refine blk_alloc ?_ _)); refine blk_far ?_ NB267_272.out _; (with_reducible repeat (first | refine blk_drewN ?_ _ | refine blk_drew ?_ | refine blk_alloc ?_ _)); refine blk_far ?_ NB267_272.out _; (with_reducible repeat (first | refine blk_drewN ?_ _ | refine blk_drew ?_ | refine blk_alloc ?_ _)); exact BK267.out⟩, ⟨by (with_reducible repeat (first | refine blk_drewN ?_ _ | refine blk_drew ?_ | refine blk_alloc ?_ _)); refine blk_far ?_ NB268_272.out _; (with_reducible repeat (first | refine blk_drewN ?_ _ | refine blk_drew ?_ | refine blk_alloc ?_ _)); refine blk_far ?_ NB268_272.out _; (with_reducible repeat (first | refine blk_drewN ?_ _ | refine blk_drew ?_ | refine blk_alloc ?_ _)); exact BK268.out⟩, ⟨by (with_reducible repeat (first | refine blk_drewN ?_ _ | refine blk_drew ?_ | refine blk_alloc ?_ _)); refine blk_put (cs := #[.int .i64 ((rd_T50 l1_3 x6_2).f0), .int .i64 0]) ?_ 1 _ rfl; (with_reducible repeat (first | refine blk_drewN ?_ _ | refine blk_drew ?_ | refine blk_alloc ?_ _)); refine blk_put (cs := #[.int .i64 0, .int .i64 0]) ?_ 0 _ rfl; (with_reducible repeat (first | refine blk_drewN ?_ _ | refine blk_drew ?_ | refine blk_alloc ?_ _)); exact BK272.out⟩, ⟨bl HB⟩⟩
             ·rw [if_neg c85] at H
              have c85b0 : decide (((rd_T50 l1_3 x6_2).f1) < 1) = false := decide_eq_false c85
              clear c85
              have H' := Aside0.mk H
              clear H
              have hnb92 := NB272_267.out
              have hnc92 := NB267_272.out
              have hnb93 := NB272_268.out
              have hnc93 := NB268_272.out
              obtain ⟨hcz94_0, hcz94_1⟩ := ce2 BK272
              obtain ⟨hfz94_0, hfz94_1⟩ := fr2 BK272
              have hnb95 := NB268_267.out
              have hnc95 := NB267_268.out
              obtain ⟨hcz96_0, hcz96_1, hcz96_2, hcz96_3⟩ := ce4 BK268
              obtain ⟨hfz96_0, hfz96_1, hfz96_2, hfz96_3⟩ := fr4 BK268
              obtain ⟨hcz97_0, hcz97_1, hcz97_2, hcz97_3⟩ := ce4 BK267
              obtain ⟨hfz97_0, hfz97_1, hfz97_2, hfz97_3⟩ := fr4 BK267
              go_wp2
              repeat (go_quiet (fail); try go_wp2)
              go_meet
              case rel => exact ⟨_, (decide (((rd_T50 l1_3 x6_2).f1) > a0_1)), (by first | (with_reducible rfl) | rfl | (simp; done) | (simp [*]; done)), H', ⟨by have := HJ2.out; have := HK2.out; first | omega | exact Nat.le_refl _⟩, ⟨by (with_reducible repeat (first | refine blk_drewN ?_ _ | refine blk_drew ?_ | refine blk_alloc ?_ _)); refine blk_far ?_ NB267_272.out _; (with_reducible repeat (first | refine blk_drewN ?_ _ | refine blk_drew ?_ | refine blk_alloc ?_ _)); refine blk_far ?_ NB267_272.out _; (with_reducible repeat (first | refine blk_drewN ?_ _ | refine blk_drew ?_ | refine blk_alloc ?_ _)); exact BK267.out⟩, ⟨by (with_reducible repeat (first | refine blk_drewN ?_ _ | refine blk_drew ?_ | refine blk_alloc ?_ _)); refine blk_far ?_ NB268_272.out _; (with_reducible repeat (first | refine blk_drewN ?_ _ | refine blk_drew ?_ | refine blk_alloc ?_ _)); refine blk_far ?_ NB268_272.out _; (with_reducible repeat (first | refine blk_drewN ?_ _ | refine blk_drew ?_ | refine blk_alloc ?_ _)); exact BK268.out⟩, ⟨by (with_reducible repeat (first | refine blk_drewN ?_ _ | refine blk_drew ?_ | refine blk_alloc ?_ _)); refine blk_put (cs := #[.int .i64 ((rd_T50 l1_3 x6_2).f0), .int .i64 0]) ?_ 1 _ rfl; (with_reducible repeat (first | refine blk_drewN ?_ _ | refine blk_drew ?_ | refine blk_alloc ?_ _)); refine blk_put (cs := #[.int .i64 0, .int .i64 0]) ?_ 0 _ rfl; (with_reducible repeat (first | refine blk_drewN ?_ _ | refine blk_drew ?_ | refine blk_alloc ?_ _)); exact BK272.out⟩, ⟨bl HB⟩⟩
        case rest =>
         clear HC37
         try clear c7; try clear c7b0; try clear c7b1; try clear c8; try clear c8b0; try clear c8b1; try clear c10; try clear c11; try clear c11b0; try clear c11b1; try clear c34; try clear c35; try clear c35b0; try clear c36; try clear c36b0; try clear c44; try clear c44b0; try clear c48; try clear c48b0; try clear c54; try clear c54b0; try clear c61; try clear c61b0; try clear c63; try clear c63b0; try clear c64; try clear c64b0; try clear c65; try clear c65b0; try clear c72; try clear c72b0; try clear c85; try clear c85b0; try clear hcz13_0; try clear hcz13_1; try clear hcz13_2; try clear hcz13_3; try clear hcz15_0; try clear hcz15_1; try clear hcz15_2; try clear hcz15_3; try clear hcz16_0; try clear hcz16_1; try clear hcz16_2; try clear hcz16_3; try clear hcz18_0; try clear hcz18_1; try clear hcz18_2; try clear hcz18_3; try clear hcz20_0; try clear hcz20_1; try clear hcz20_2; try clear hcz20_3; try clear hcz21_0; try clear hcz21_1; try clear hcz21_2; try clear hcz21_3; try clear hcz23_0; try clear hcz23_1; try clear hcz23_2; try clear hcz23_3; try clear hcz25_0; try clear hcz25_1; try clear hcz25_2; try clear hcz25_3; try clear hcz26_0; try clear hcz26_1; try clear hcz26_2; try clear hcz26_3; try clear hcz28_0; try clear hcz28_1; try clear hcz28_2; try clear hcz28_3; try clear hcz30_0; try clear hcz30_1; try clear hcz30_2; try clear hcz30_3; try clear hcz32_0; try clear hcz32_1; try clear hcz32_2; try clear hcz32_3; try clear hcz39_0; try clear hcz39_1; try clear hcz39_2; try clear hcz39_3; try clear hcz43_0; try clear hcz43_1; try clear hcz47_0; try clear hcz47_1; try clear hcz51_0; try clear hcz51_1; try clear hcz53_0; try clear hcz53_1; try clear hcz53_2; try clear hcz53_3; try clear hcz57_0; try clear hcz57_1; try clear hcz59_0; try clear hcz59_1; try clear hcz59_2; try clear hcz59_3; try clear hcz60_0; try clear hcz60_1; try clear hcz60_2; try clear hcz60_3; try clear hcz68_0; try clear hcz68_1; try clear hcz70_0; try clear hcz70_1; try clear hcz70_2; try clear hcz70_3; try clear hcz71_0; try clear hcz71_1; try clear hcz71_2; try clear hcz71_3; try clear hcz75_0; try clear hcz75_1; try clear hcz77_0; try clear hcz77_1; try clear hcz77_2; try clear hcz77_3; try clear hcz78_0; try clear hcz78_1; try clear hcz78_2; try clear hcz78_3; try clear hcz81_0; try clear hcz81_1; try clear hcz83_0; try clear hcz83_1; try clear hcz83_2; try clear hcz83_3; try clear hcz84_0; try clear hcz84_1; try clear hcz84_2; try clear hcz84_3; try clear hcz88_0; try clear hcz88_1; try clear hcz90_0; try clear hcz90_1; try clear hcz90_2; try clear hcz90_3; try clear hcz91_0; try clear hcz91_1; try clear hcz91_2; try clear hcz91_3; try clear hcz94_0; try clear hcz94_1; try clear hcz96_0; try clear hcz96_1; try clear hcz96_2; try clear hcz96_3; try clear hcz97_0; try clear hcz97_1; try clear hcz97_2; try clear hcz97_3; try clear hfz13_0; try clear hfz13_1; try clear hfz13_2; try clear hfz13_3; try clear hfz15_0; try clear hfz15_1; try clear hfz15_2; try clear hfz15_3; try clear hfz16_0; try clear hfz16_1; try clear hfz16_2; try clear hfz16_3; try clear hfz18_0; try clear hfz18_1; try clear hfz18_2; try clear hfz18_3; try clear hfz20_0; try clear hfz20_1; try clear hfz20_2; try clear hfz20_3; try clear hfz21_0; try clear hfz21_1; try clear hfz21_2; try clear hfz21_3; try clear hfz23_0; try clear hfz23_1; try clear hfz23_2; try clear hfz23_3; try clear hfz25_0; try clear hfz25_1; try clear hfz25_2; try clear hfz25_3; try clear hfz26_0; try clear hfz26_1; try clear hfz26_2; try clear hfz26_3; try clear hfz28_0; try clear hfz28_1; try clear hfz28_2; try clear hfz28_3; try clear hfz30_0; try clear hfz30_1; try clear hfz30_2; try clear hfz30_3; try clear hfz32_0; try clear hfz32_1; try clear hfz32_2; try clear hfz32_3; try clear hfz39_0; try clear hfz39_1; try clear hfz39_2; try clear hfz39_3; try clear hfz43_0; try clear hfz43_1; try clear hfz47_0; try clear hfz47_1; try clear hfz51_0; try clear hfz51_1; try clear hfz53_0; try clear hfz53_1; try clear hfz53_2; try clear hfz53_3; try clear hfz57_0; try clear hfz57_1; try clear hfz59_0; try clear hfz59_1; try clear hfz59_2; try clear hfz59_3; try clear hfz60_0; try clear hfz60_1; try clear hfz60_2; try clear hfz60_3; try clear hfz68_0; try clear hfz68_1; try clear hfz70_0; try clear hfz70_1; try clear hfz70_2; try clear hfz70_3; try clear hfz71_0; try clear hfz71_1; try clear hfz71_2; try clear hfz71_3; try clear hfz75_0; try clear hfz75_1; try clear hfz77_0; try clear hfz77_1; try clear hfz77_2; try clear hfz77_3; try clear hfz78_0; try clear hfz78_1; try clear hfz78_2; try clear hfz78_3; try clear hfz81_0; try clear hfz81_1; try clear hfz83_0; try clear hfz83_1; try clear hfz83_2; try clear hfz83_3; try clear hfz84_0; try clear hfz84_1; try clear hfz84_2; try clear hfz84_3; try clear hfz88_0; try clear hfz88_1; try clear hfz90_0; try clear hfz90_1; try clear hfz90_2; try clear hfz90_3; try clear hfz91_0; try clear hfz91_1; try clear hfz91_2; try clear hfz91_3; try clear hfz94_0; try clear hfz94_1; try clear hfz96_0; try clear hfz96_1; try clear hfz96_2; try clear hfz96_3; try clear hfz97_0; try clear hfz97_1; try clear hfz97_2; try clear hfz97_3; try clear hx271_0; try clear hx271_1; try clear hx273_0; try clear hx273_1; try clear p271; try clear p273; try clear q271; try clear q273
         obtain ⟨kq, x92_36, rfl, HA, HJ36, BK267, BK268, BK272, HB⟩ := hcut
         cases kq with
         | zero => exact absurd HA.out (by simp [sandglassref13_May.j2])
         | succ kj36 =>
          have H := HA.out
          clear HA
          simp only [sandglassref13_May.j2] at H
          by_cases c98 : x92_36 = true
          ·subst c98
           rw [if_pos rfl] at H
           obtain rfl := Option.some.inj H
           go_wp2
           repeat (go_quiet (fail); try go_wp2)
           go_ret
           exact ⟨by first | (with_reducible rfl) | rfl | (simp [errW_none, errW_some] <;> rfl) | (simp [*, errW_none, errW_some] <;> rfl), bl HB⟩
          ·replace c98 := Bool.eq_false_iff.mpr c98
           subst c98
           rw [if_neg (show ¬ (false = true) by decide)] at H
           have H' := Aside0.mk H
           clear H
           have hnb99 := NB272_267.out
           have hnc99 := NB267_272.out
           have hnb100 := NB272_268.out
           have hnc100 := NB268_272.out
           obtain ⟨hcz101_0, hcz101_1⟩ := ce2 BK272
           obtain ⟨hfz101_0, hfz101_1⟩ := fr2 BK272
           go_wp2
           repeat (go_quiet (fail); try go_wp2)
           go_roundg kj36
           case measure => have := HJ2.out; have := HK2.out; have := HJ36.out; omega
           case rel => exact ⟨(wrap64 (x5_2 + ((rd_T50 l1_3 x6_2).f1))), (wrap64 (x6_2 + 1)), (by first | (with_reducible rfl) | rfl | (simp; done) | (simp [*]; done)), (by first | (with_reducible rfl) | rfl | (simp; done) | (simp [*]; done)), H', ⟨by have := HJ2.out; have := HK2.out; have := HJ36.out; omega⟩, ⟨bo BK267⟩, ⟨bo BK268⟩, ⟨bl HB⟩⟩
       ·rw [if_neg c36] at H
        exact absurd H (by simp)
      ·rw [if_neg c35] at H
       have c35b0 : decide (x6_2 < (l1_3.length : Int)) = false := decide_eq_false c35
       clear c35
       obtain rfl := Option.some.inj H
       have hnb102 := NB268_267.out
       have hnc102 := NB267_268.out
       obtain ⟨hcz103_0, hcz103_1, hcz103_2, hcz103_3⟩ := ce4 BK268
       obtain ⟨hfz103_0, hfz103_1, hfz103_2, hfz103_3⟩ := fr4 BK268
       obtain ⟨hcz104_0, hcz104_1, hcz104_2, hcz104_3⟩ := ce4 BK267
       obtain ⟨hfz104_0, hfz104_1, hfz104_2, hfz104_3⟩ := fr4 BK267
       go_wp2
       repeat (go_quiet (fail); try go_wp2)
       go_ret
       exact ⟨by first | (with_reducible rfl) | rfl | (simp [errW_none, errW_some] <;> rfl) | (simp [*, errW_none, errW_some] <;> rfl), bl HB⟩

end Go.Proofs.Ytempbjcmhillgaa.Q
