-- Laid by wip/tools/hprint.py, a program of this repo, over the kit's print; not a text of print.sh.
import Derived.Test.YtempbjcmhillgaaQ0
import Derived.Test.YtempbjcmhillgaaQ4
import Derived.Test.YtempbjcmhillgaaQ6
namespace Go.Proofs.Ytempbjcmhillgaa.Q
open Go.RowKit Go.Proofs.Ytempbjcmhillgaa.Zip Go.Proofs.YtempbjcmhillgaaW.PrintWords Go.Proofs.YtempbjcmhillgaaW.PrintLast Go.Proofs.YtempbjcmhillgaaW.PrintMore
attribute [local go_sem] max2_int min2_int max_two min_two max_three min_three max_four min_four   -- for this text's walks alone
set_option linter.unusedVariables false
set_option linter.unusedSimpArgs false

/-! ### exact_May: function 13 -/
mutual
def exact_May.j0 : Nat → Bool → Int → Int → Int → Int → Int → Int → List Int → List (S50) → Option (Bool)
  | 0, _, _, _, _, _, _, _, _, _ => none
  | k + 1, x33, x103000, x103001, x103002, x103003, x104000, x104001, x104002, x104003 => if x33 = true then (some false) else (exact_May.l0 k 0 (mx (-1) (wrap64 (x104000 - x103002))) x104003 (x104003.length : Int) 0 x103000 x103001 x103002 x103003 x104000 x104001 x104002 x104003)
def exact_May.l0 : Nat → Int → Int → List (S50) → Int → Int → Int → Int → Int → Int → Int → Int → List Int → List (S50) → Option (Bool)
  | 0, _, _, _, _, _, _, _, _, _, _, _, _, _ => none
  | k + 1, x5, x6, x41, x42, x43, x103000, x103001, x103002, x103003, x104000, x104001, x104002, x104003 => if x43 < x42 then (if 0 ≤ x43 then (if x43 < (x41.length : Int) then (if ((rd_T50 x41 x43).f0) ≤ x6 then (exact_May.j2 k x5 x41 x42 x43 true x103000 x103001 x103002 x103003 x104000 x104001 x104002 x104003 ((rd_T50 x41 x43).f0) ((rd_T50 x41 x43).f1)) else (if ((rd_T50 x41 x43).f0) > x104000 then (exact_May.j2 k x5 x41 x42 x43 true x103000 x103001 x103002 x103003 x104000 x104001 x104002 x104003 ((rd_T50 x41 x43).f0) ((rd_T50 x41 x43).f1)) else (if ((rd_T50 x41 x43).f1) < 1 then (exact_May.j2 k x5 x41 x42 x43 true x103000 x103001 x103002 x103003 x104000 x104001 x104002 x104003 ((rd_T50 x41 x43).f0) ((rd_T50 x41 x43).f1)) else (exact_May.j2 k x5 x41 x42 x43 (decide (((rd_T50 x41 x43).f1) > x103001)) x103000 x103001 x103002 x103003 x104000 x104001 x104002 x104003 ((rd_T50 x41 x43).f0) ((rd_T50 x41 x43).f1))))) else (none)) else (none)) else (some (decide (x5 ≤ x103001)))
def exact_May.j2 : Nat → Int → List (S50) → Int → Int → Bool → Int → Int → Int → Int → Int → Int → List Int → List (S50) → Int → Int → Option (Bool)
  | 0, _, _, _, _, _, _, _, _, _, _, _, _, _, _, _ => none
  | k + 1, x5, x41, x42, x43, x69, x103000, x103001, x103002, x103003, x104000, x104001, x104002, x104003, x108000, x108001 => if x69 = true then (some false) else (exact_May.l0 k (wrap64 (x5 + x108001)) x108000 x41 x42 (wrap64 (x43 + 1)) x103000 x103001 x103002 x103003 x104000 x104001 x104002 x104003)
end
def exact_May.f (k : Nat) (a0_0 : Int) (a0_1 : Int) (a0_2 : Int) (a0_3 : Int) (a1_0 : Int) (a1_1 : Int) (l1_2 : List Int) (l1_3 : List (S50)) : Option (Bool) := (policy_Check.f a0_0 a0_1 a0_2 a0_3).bind fun t104 => (if t104 = 0 then (if a0_0 = 4 then ((exact_time.f a1_0).bind fun t105 => (if t105 = true then (if a1_1 = 0 then (exact_May.j0 k ((l1_2.length : Int) != 0) a0_0 a0_1 a0_2 a0_3 a1_0 a1_1 l1_2 l1_3) else (exact_May.j0 k true a0_0 a0_1 a0_2 a0_3 a1_0 a1_1 l1_2 l1_3)) else (exact_May.j0 k true a0_0 a0_1 a0_2 a0_3 a1_0 a1_1 l1_2 l1_3))) else (exact_May.j0 k true a0_0 a0_1 a0_2 a0_3 a1_0 a1_1 l1_2 l1_3)) else (exact_May.j0 k true a0_0 a0_1 a0_2 a0_3 a1_0 a1_1 l1_2 l1_3))
theorem exact_May.mono_l : ∀ k, (∀ y0 y1 y2 y3 y4 y5 y6 y7 y8, LeO (exact_May.j0 k y0 y1 y2 y3 y4 y5 y6 y7 y8) (exact_May.j0 (k + 1) y0 y1 y2 y3 y4 y5 y6 y7 y8)) ∧ (∀ y0 y1 y2 y3 y4 y5 y6 y7 y8 y9 y10 y11 y12, LeO (exact_May.l0 k y0 y1 y2 y3 y4 y5 y6 y7 y8 y9 y10 y11 y12) (exact_May.l0 (k + 1) y0 y1 y2 y3 y4 y5 y6 y7 y8 y9 y10 y11 y12)) ∧ (∀ y0 y1 y2 y3 y4 y5 y6 y7 y8 y9 y10 y11 y12 y13 y14, LeO (exact_May.j2 k y0 y1 y2 y3 y4 y5 y6 y7 y8 y9 y10 y11 y12 y13 y14) (exact_May.j2 (k + 1) y0 y1 y2 y3 y4 y5 y6 y7 y8 y9 y10 y11 y12 y13 y14))
  | 0 => ⟨fun _ _ _ _ _ _ _ _ _ r h => by simp [exact_May.j0] at h, fun _ _ _ _ _ _ _ _ _ _ _ _ _ r h => by simp [exact_May.l0] at h, fun _ _ _ _ _ _ _ _ _ _ _ _ _ _ _ r h => by simp [exact_May.j2] at h⟩
  | k + 1 => by
    obtain ⟨ih0, ih1, ih2⟩ := exact_May.mono_l k
    refine ⟨?_, ?_, ?_⟩
    · intro y0 y1 y2 y3 y4 y5 y6 y7 y8
      unfold exact_May.j0
      repeat' first
      | (with_reducible exact ih0 _ _ _ _ _ _ _ _ _)
      | (with_reducible exact ih1 _ _ _ _ _ _ _ _ _ _ _ _ _)
      | (with_reducible exact ih2 _ _ _ _ _ _ _ _ _ _ _ _ _ _ _)
      | (with_reducible exact LeO.refl _)
      | (with_reducible exact LeO.none _)
      | (with_reducible refine LeO.ite ?_ ?_)
      | (with_reducible refine LeO.bind ?_ (fun _ => ?_))
      | exact ih0 _ _ _ _ _ _ _ _ _
      | exact ih1 _ _ _ _ _ _ _ _ _ _ _ _ _
      | exact ih2 _ _ _ _ _ _ _ _ _ _ _ _ _ _ _
      | exact LeO.none _
      | refine LeO.ite ?_ ?_
      | refine LeO.bind ?_ (fun _ => ?_)
    · intro y0 y1 y2 y3 y4 y5 y6 y7 y8 y9 y10 y11 y12
      unfold exact_May.l0
      repeat' first
      | (with_reducible exact ih0 _ _ _ _ _ _ _ _ _)
      | (with_reducible exact ih1 _ _ _ _ _ _ _ _ _ _ _ _ _)
      | (with_reducible exact ih2 _ _ _ _ _ _ _ _ _ _ _ _ _ _ _)
      | (with_reducible exact LeO.refl _)
      | (with_reducible exact LeO.none _)
      | (with_reducible refine LeO.ite ?_ ?_)
      | (with_reducible refine LeO.bind ?_ (fun _ => ?_))
      | exact ih0 _ _ _ _ _ _ _ _ _
      | exact ih1 _ _ _ _ _ _ _ _ _ _ _ _ _
      | exact ih2 _ _ _ _ _ _ _ _ _ _ _ _ _ _ _
      | exact LeO.none _
      | refine LeO.ite ?_ ?_
      | refine LeO.bind ?_ (fun _ => ?_)
    · intro y0 y1 y2 y3 y4 y5 y6 y7 y8 y9 y10 y11 y12 y13 y14
      unfold exact_May.j2
      repeat' first
      | (with_reducible exact ih0 _ _ _ _ _ _ _ _ _)
      | (with_reducible exact ih1 _ _ _ _ _ _ _ _ _ _ _ _ _)
      | (with_reducible exact ih2 _ _ _ _ _ _ _ _ _ _ _ _ _ _ _)
      | (with_reducible exact LeO.refl _)
      | (with_reducible exact LeO.none _)
      | (with_reducible refine LeO.ite ?_ ?_)
      | (with_reducible refine LeO.bind ?_ (fun _ => ?_))
      | exact ih0 _ _ _ _ _ _ _ _ _
      | exact ih1 _ _ _ _ _ _ _ _ _ _ _ _ _
      | exact ih2 _ _ _ _ _ _ _ _ _ _ _ _ _ _ _
      | exact LeO.none _
      | refine LeO.ite ?_ ?_
      | refine LeO.bind ?_ (fun _ => ?_)
theorem exact_May.mono : ∀ a0 a1 a2 a3 a4 a5 a6 a7 k, LeO (exact_May.f k a0 a1 a2 a3 a4 a5 a6 a7) (exact_May.f (k + 1) a0 a1 a2 a3 a4 a5 a6 a7) := by
  intro a0 a1 a2 a3 a4 a5 a6 a7 k
  obtain ⟨ih0, ih1, ih2⟩ := exact_May.mono_l k
  unfold exact_May.f
  repeat' first
      | (with_reducible exact ih0 _ _ _ _ _ _ _ _ _)
      | (with_reducible exact ih1 _ _ _ _ _ _ _ _ _ _ _ _ _)
      | (with_reducible exact ih2 _ _ _ _ _ _ _ _ _ _ _ _ _ _ _)
      | (with_reducible exact LeO.refl _)
      | (with_reducible exact LeO.none _)
      | (with_reducible refine LeO.ite ?_ ?_)
      | (with_reducible refine LeO.bind ?_ (fun _ => ?_))
      | exact ih0 _ _ _ _ _ _ _ _ _
      | exact ih1 _ _ _ _ _ _ _ _ _ _ _ _ _
      | exact ih2 _ _ _ _ _ _ _ _ _ _ _ _ _ _ _
      | exact LeO.none _
      | refine LeO.ite ?_ ?_
      | refine LeO.bind ?_ (fun _ => ?_)
set_option maxHeartbeats 8000000 in
set_option maxRecDepth 100000 in
theorem exact_May.calls (k : Nat) (a0_0 : Int) (a0_1 : Int) (a0_2 : Int) (a0_3 : Int) (a1_0 : Int) (a1_1 : Int) (A1_2 : Option Addr) (c1_2 : Nat) (l1_2 : List Int) (A1_3 : Option Addr) (c1_3 : Nat) (l1_3 : List (S50)) (r : Bool) (w : World) (hr1_2 : Kd.C (Kd.int .i64) w A1_2 l1_2.length l1_2) (hc1_2 : l1_2.length ≤ c1_2) (hr1_3 : Kd.C k50 w A1_3 l1_3.length l1_3) (hc1_3 : l1_3.length ≤ c1_3) (h : exact_May.f k a0_0 a0_1 a0_2 a0_3 a1_0 a1_1 l1_2 l1_3 = some r) :
  Calls Try.prog 13 #[.agg #[.int .i64 a0_0, .int .i64 a0_1, .int .i64 a0_2, .int .i64 a0_3], .agg #[.int .i64 a1_0, .int .i64 a1_1, .slice A1_2 l1_2.length c1_2, .slice A1_3 l1_3.length c1_3]] w fun e w' => e = .returned (.bool r) ∧ Below w.heap.size w w' := by
 have hu23 := Try.underlying23
 have hu27 := Try.underlying27
 have hu50 := Try.underlying50
 have HR1_2 := Aside0.mk hr1_2
 have HC1_2 := Aside0.mk hc1_2
 clear hr1_2 hc1_2
 have HR1_3 := Aside0.mk hr1_3
 have HC1_3 := Aside0.mk hc1_3
 clear hr1_3 hc1_3
 have HB := Aside0.mk (Below.refl w.heap.size w)
 have H : ((policy_Check.f a0_0 a0_1 a0_2 a0_3).bind fun t104 => (if t104 = 0 then (if a0_0 = 4 then ((exact_time.f a1_0).bind fun t105 => (if t105 = true then (if a1_1 = 0 then (exact_May.j0 k ((l1_2.length : Int) != 0) a0_0 a0_1 a0_2 a0_3 a1_0 a1_1 l1_2 l1_3) else (exact_May.j0 k true a0_0 a0_1 a0_2 a0_3 a1_0 a1_1 l1_2 l1_3)) else (exact_May.j0 k true a0_0 a0_1 a0_2 a0_3 a1_0 a1_1 l1_2 l1_3))) else (exact_May.j0 k true a0_0 a0_1 a0_2 a0_3 a1_0 a1_1 l1_2 l1_3)) else (exact_May.j0 k true a0_0 a0_1 a0_2 a0_3 a1_0 a1_1 l1_2 l1_3))) = some r := h
 clear h
 have HC3 := Aside0.mk H
 clear H
 go_enter Try.func13, Try.ntmps13
 go_upto_region 1 with (first | ((with_reducible refine gate_dst (N := 2) rfl ?_); (try (refine gate_guard (by rfl) ?_; dsimp only)); refine box_event ?hg (N := 2) ?hd (cs := #[.int .i64 a0_0, .int .i64 a0_1, .int .i64 a0_2, .int .i64 a0_3]) (t := 23) ?hr ?_; (case hd => rfl); (case hg => rfl); (case hr => first | (go_simp; done) | (go_simp; rfl)); intro gb102 hg w4 hbox hb; have BK102 := Aside0.mk (hbox); have GW102 := Aside0.mk ((by rw [hg]; exact (below_size (bl HB)) : w.heap.size ≤ gb102)); have GE102 := Aside0.mk ((by rw [hg]; exact (below_size (bl HB)) : w.heap.size ≤ gb102)); replace HB := Aside0.mk (below_step (bl HB) hb); clear hb hbox hg) | ((with_reducible refine gate_dst (N := 3) rfl ?_); (try (refine gate_guard (by rfl) ?_; dsimp only)); refine box_event ?hg (N := 3) ?hd (cs := #[.int .i64 a1_0, .int .i64 a1_1, .slice A1_2 l1_2.length c1_2, .slice A1_3 l1_3.length c1_3]) (t := 27) ?hr ?_; (case hd => rfl); (case hg => rfl); (case hr => first | (go_simp; done) | (go_simp; rfl)); intro gb103 hg w5 hbox hb; have BK103 := Aside0.mk (hbox); have GW103 := Aside0.mk ((by rw [hg]; exact (below_size (bl HB)) : w.heap.size ≤ gb103)); have GE103 := Aside0.mk ((by rw [hg]; exact (below_size (bl HB)) : w.heap.size ≤ gb103)); have NB102_103 := nb BK102 hg; have NB103_102 := bn BK102 hg; replace BK102 := Aside0.mk (blk_below (bo BK102) hb); replace HB := Aside0.mk (below_step (bl HB) hb); clear hb hbox hg))
 repeat (go_quiet (first | ((with_reducible refine gate_dst (N := 2) rfl ?_); (try (refine gate_guard (by rfl) ?_; dsimp only)); refine box_event ?hg (N := 2) ?hd (cs := #[.int .i64 a0_0, .int .i64 a0_1, .int .i64 a0_2, .int .i64 a0_3]) (t := 23) ?hr ?_; (case hd => rfl); (case hg => rfl); (case hr => first | (go_simp; done) | (go_simp; rfl)); intro gb102 hg w4 hbox hb; have BK102 := Aside0.mk (hbox); have GW102 := Aside0.mk ((by rw [hg]; exact (below_size (bl HB)) : w.heap.size ≤ gb102)); have GE102 := Aside0.mk ((by rw [hg]; exact (below_size (bl HB)) : w.heap.size ≤ gb102)); replace HB := Aside0.mk (below_step (bl HB) hb); clear hb hbox hg) | ((with_reducible refine gate_dst (N := 3) rfl ?_); (try (refine gate_guard (by rfl) ?_; dsimp only)); refine box_event ?hg (N := 3) ?hd (cs := #[.int .i64 a1_0, .int .i64 a1_1, .slice A1_2 l1_2.length c1_2, .slice A1_3 l1_3.length c1_3]) (t := 27) ?hr ?_; (case hd => rfl); (case hg => rfl); (case hr => first | (go_simp; done) | (go_simp; rfl)); intro gb103 hg w5 hbox hb; have BK103 := Aside0.mk (hbox); have GW103 := Aside0.mk ((by rw [hg]; exact (below_size (bl HB)) : w.heap.size ≤ gb103)); have GE103 := Aside0.mk ((by rw [hg]; exact (below_size (bl HB)) : w.heap.size ≤ gb103)); have NB102_103 := nb BK102 hg; have NB103_102 := bn BK102 hg; replace BK102 := Aside0.mk (blk_below (bo BK102) hb); replace HB := Aside0.mk (below_step (bl HB) hb); clear hb hbox hg)); go_upto_region 1 with (first | ((with_reducible refine gate_dst (N := 2) rfl ?_); (try (refine gate_guard (by rfl) ?_; dsimp only)); refine box_event ?hg (N := 2) ?hd (cs := #[.int .i64 a0_0, .int .i64 a0_1, .int .i64 a0_2, .int .i64 a0_3]) (t := 23) ?hr ?_; (case hd => rfl); (case hg => rfl); (case hr => first | (go_simp; done) | (go_simp; rfl)); intro gb102 hg w4 hbox hb; have BK102 := Aside0.mk (hbox); have GW102 := Aside0.mk ((by rw [hg]; exact (below_size (bl HB)) : w.heap.size ≤ gb102)); have GE102 := Aside0.mk ((by rw [hg]; exact (below_size (bl HB)) : w.heap.size ≤ gb102)); replace HB := Aside0.mk (below_step (bl HB) hb); clear hb hbox hg) | ((with_reducible refine gate_dst (N := 3) rfl ?_); (try (refine gate_guard (by rfl) ?_; dsimp only)); refine box_event ?hg (N := 3) ?hd (cs := #[.int .i64 a1_0, .int .i64 a1_1, .slice A1_2 l1_2.length c1_2, .slice A1_3 l1_3.length c1_3]) (t := 27) ?hr ?_; (case hd => rfl); (case hg => rfl); (case hr => first | (go_simp; done) | (go_simp; rfl)); intro gb103 hg w5 hbox hb; have BK103 := Aside0.mk (hbox); have GW103 := Aside0.mk ((by rw [hg]; exact (below_size (bl HB)) : w.heap.size ≤ gb103)); have GE103 := Aside0.mk ((by rw [hg]; exact (below_size (bl HB)) : w.heap.size ≤ gb103)); have NB102_103 := nb BK102 hg; have NB103_102 := bn BK102 hg; replace BK102 := Aside0.mk (blk_below (bo BK102) hb); replace HB := Aside0.mk (below_step (bl HB) hb); clear hb hbox hg)))
 (try simp only [Act.put, List.setIfInBounds_toArray, List.set_cons_zero, List.set_cons_succ])
 go_cut [33] (fun v33 wc => ∃ (kq : Nat) (x33_2 : Bool), v33 = .bool x33_2 ∧ Aside0 (exact_May.j0 kq x33_2 a0_0 a0_1 a0_2 a0_3 a1_0 a1_1 l1_2 l1_3 = some r) ∧ Aside0 (kq ≤ k) ∧ Aside0 (wc.heap[gb102]? = some (.cells #[.int .i64 a0_0, .int .i64 a0_1, .int .i64 a0_2, .int .i64 a0_3] 23 (0, 0))) ∧ Aside0 (wc.heap[gb103]? = some (.cells #[.int .i64 a1_0, .int .i64 a1_1, (.slice A1_2 l1_2.length c1_2), (.slice A1_3 l1_3.length c1_3)] 27 (0, 0))) ∧ Aside0 (Below w.heap.size w wc))
 case first =>
  have H := HC3.out
  clear HC3
  replace H := Option.bind_eq_some_iff.mp H
  obtain ⟨t104, A60, H⟩ := H
  have A6 := Aside0.mk A60
  clear A60
  by_cases c7 : t104 = 0
  ·rw [if_pos c7] at H
   have c7b0 : (t104 == 0) = true := beq_iff_eq.mpr c7
   have c7b1 : (t104 != 0) = false := bne_eq_false_iff_eq.mpr c7
   clear c7
   (first | rw [c7b0] | (simp only [i64_w, i32_w]; rw [c7b0]) | skip)
   by_cases c8 : a0_0 = 4
   ·rw [if_pos c8] at H
    have c8b0 : (a0_0 == 4) = true := beq_iff_eq.mpr c8
    have c8b1 : (a0_0 != 4) = false := bne_eq_false_iff_eq.mpr c8
    clear c8
    replace H := Option.bind_eq_some_iff.mp H
    obtain ⟨t105, A90, H⟩ := H
    have A9 := Aside0.mk A90
    clear A90
    by_cases c10 : t105 = true
    ·subst c10
     rw [if_pos rfl] at H
     by_cases c11 : a1_1 = 0
     ·rw [if_pos c11] at H
      have c11b0 : (a1_1 == 0) = true := beq_iff_eq.mpr c11
      have c11b1 : (a1_1 != 0) = false := bne_eq_false_iff_eq.mpr c11
      clear c11
      have H' := Aside0.mk H
      clear H
      have hnb12 := NB102_103.out
      have hnc12 := NB103_102.out
      obtain ⟨hcz13_0, hcz13_1, hcz13_2, hcz13_3⟩ := ce4 BK102
      obtain ⟨hfz13_0, hfz13_1, hfz13_2, hfz13_3⟩ := fr4 BK102
      go_wp2_with (first | (go_at_call 30; (with_reducible refine (policy_Check.calls a0_0 a0_1 a0_2 a0_3 t104 _ A6.out).mono ?_); rintro e w14 ⟨rfl, hb⟩; replace BK102 := Aside0.mk (blk_below (bo BK102) hb); replace BK103 := Aside0.mk (blk_below (bo BK103) hb); replace HB := Aside0.mk (below_step (bl HB) hb); (try clear hb); (try clear hb2); (try clear hk); (try clear hi); obtain ⟨hcz15_0, hcz15_1, hcz15_2, hcz15_3⟩ := ce4 BK102; obtain ⟨hfz15_0, hfz15_1, hfz15_2, hfz15_3⟩ := fr4 BK102; obtain ⟨hcz16_0, hcz16_1, hcz16_2, hcz16_3⟩ := ce4 BK103; obtain ⟨hfz16_0, hfz16_1, hfz16_2, hfz16_3⟩ := fr4 BK103) | (go_at_call 21; (with_reducible refine (exact_time.calls a1_0 true _ A9.out).mono ?_); rintro e w' ⟨rfl, ⟨nd, rfl⟩⟩; (try first | exact ⟨rfl, _, World.drewN_drewN _ _ _⟩ | exact ⟨rfl, _, Eq.trans (World.drewN_drewN _ _ _) (congrArg (World.drewN _) (Nat.add_assoc _ _ _))⟩)))
      repeat (go_quiet (first | (go_at_call 30; (with_reducible refine (policy_Check.calls a0_0 a0_1 a0_2 a0_3 t104 _ A6.out).mono ?_); rintro e w14 ⟨rfl, hb⟩; replace BK102 := Aside0.mk (blk_below (bo BK102) hb); replace BK103 := Aside0.mk (blk_below (bo BK103) hb); replace HB := Aside0.mk (below_step (bl HB) hb); (try clear hb); (try clear hb2); (try clear hk); (try clear hi); obtain ⟨hcz15_0, hcz15_1, hcz15_2, hcz15_3⟩ := ce4 BK102; obtain ⟨hfz15_0, hfz15_1, hfz15_2, hfz15_3⟩ := fr4 BK102; obtain ⟨hcz16_0, hcz16_1, hcz16_2, hcz16_3⟩ := ce4 BK103; obtain ⟨hfz16_0, hfz16_1, hfz16_2, hfz16_3⟩ := fr4 BK103) | (go_at_call 21; (with_reducible refine (exact_time.calls a1_0 true _ A9.out).mono ?_); rintro e w' ⟨rfl, ⟨nd, rfl⟩⟩; (try first | exact ⟨rfl, _, World.drewN_drewN _ _ _⟩ | exact ⟨rfl, _, Eq.trans (World.drewN_drewN _ _ _) (congrArg (World.drewN _) (Nat.add_assoc _ _ _))⟩))); try go_wp2_with (first | (go_at_call 30; (with_reducible refine (policy_Check.calls a0_0 a0_1 a0_2 a0_3 t104 _ A6.out).mono ?_); rintro e w14 ⟨rfl, hb⟩; replace BK102 := Aside0.mk (blk_below (bo BK102) hb); replace BK103 := Aside0.mk (blk_below (bo BK103) hb); replace HB := Aside0.mk (below_step (bl HB) hb); (try clear hb); (try clear hb2); (try clear hk); (try clear hi); obtain ⟨hcz15_0, hcz15_1, hcz15_2, hcz15_3⟩ := ce4 BK102; obtain ⟨hfz15_0, hfz15_1, hfz15_2, hfz15_3⟩ := fr4 BK102; obtain ⟨hcz16_0, hcz16_1, hcz16_2, hcz16_3⟩ := ce4 BK103; obtain ⟨hfz16_0, hfz16_1, hfz16_2, hfz16_3⟩ := fr4 BK103) | (go_at_call 21; (with_reducible refine (exact_time.calls a1_0 true _ A9.out).mono ?_); rintro e w' ⟨rfl, ⟨nd, rfl⟩⟩; (try first | exact ⟨rfl, _, World.drewN_drewN _ _ _⟩ | exact ⟨rfl, _, Eq.trans (World.drewN_drewN _ _ _) (congrArg (World.drewN _) (Nat.add_assoc _ _ _))⟩))))
      go_meet
      case rel => exact ⟨_, (((l1_2.length : Int) != 0)), (by first | (with_reducible rfl) | rfl | (simp; done) | (simp [*]; done)), H', ⟨by first | omega | exact Nat.le_refl _⟩, ⟨bo BK102⟩, ⟨bo BK103⟩, ⟨bl HB⟩⟩
     ·rw [if_neg c11] at H
      have c11b0 : (a1_1 == 0) = false := beq_eq_false_iff_ne.mpr c11
      have c11b1 : (a1_1 != 0) = true := bne_iff_ne.mpr c11
      have H' := Aside0.mk H
      clear H
      have hnb17 := NB102_103.out
      have hnc17 := NB103_102.out
      obtain ⟨hcz18_0, hcz18_1, hcz18_2, hcz18_3⟩ := ce4 BK102
      obtain ⟨hfz18_0, hfz18_1, hfz18_2, hfz18_3⟩ := fr4 BK102
      go_wp2_with (first | (go_at_call 30; (with_reducible refine (policy_Check.calls a0_0 a0_1 a0_2 a0_3 t104 _ A6.out).mono ?_); rintro e w19 ⟨rfl, hb⟩; replace BK102 := Aside0.mk (blk_below (bo BK102) hb); replace BK103 := Aside0.mk (blk_below (bo BK103) hb); replace HB := Aside0.mk (below_step (bl HB) hb); (try clear hb); (try clear hb2); (try clear hk); (try clear hi); obtain ⟨hcz20_0, hcz20_1, hcz20_2, hcz20_3⟩ := ce4 BK102; obtain ⟨hfz20_0, hfz20_1, hfz20_2, hfz20_3⟩ := fr4 BK102; obtain ⟨hcz21_0, hcz21_1, hcz21_2, hcz21_3⟩ := ce4 BK103; obtain ⟨hfz21_0, hfz21_1, hfz21_2, hfz21_3⟩ := fr4 BK103) | (go_at_call 21; (with_reducible refine (exact_time.calls a1_0 true _ A9.out).mono ?_); rintro e w' ⟨rfl, ⟨nd, rfl⟩⟩; (try first | exact ⟨rfl, _, World.drewN_drewN _ _ _⟩ | exact ⟨rfl, _, Eq.trans (World.drewN_drewN _ _ _) (congrArg (World.drewN _) (Nat.add_assoc _ _ _))⟩)))
      repeat (go_quiet (first | (go_at_call 30; (with_reducible refine (policy_Check.calls a0_0 a0_1 a0_2 a0_3 t104 _ A6.out).mono ?_); rintro e w19 ⟨rfl, hb⟩; replace BK102 := Aside0.mk (blk_below (bo BK102) hb); replace BK103 := Aside0.mk (blk_below (bo BK103) hb); replace HB := Aside0.mk (below_step (bl HB) hb); (try clear hb); (try clear hb2); (try clear hk); (try clear hi); obtain ⟨hcz20_0, hcz20_1, hcz20_2, hcz20_3⟩ := ce4 BK102; obtain ⟨hfz20_0, hfz20_1, hfz20_2, hfz20_3⟩ := fr4 BK102; obtain ⟨hcz21_0, hcz21_1, hcz21_2, hcz21_3⟩ := ce4 BK103; obtain ⟨hfz21_0, hfz21_1, hfz21_2, hfz21_3⟩ := fr4 BK103) | (go_at_call 21; (with_reducible refine (exact_time.calls a1_0 true _ A9.out).mono ?_); rintro e w' ⟨rfl, ⟨nd, rfl⟩⟩; (try first | exact ⟨rfl, _, World.drewN_drewN _ _ _⟩ | exact ⟨rfl, _, Eq.trans (World.drewN_drewN _ _ _) (congrArg (World.drewN _) (Nat.add_assoc _ _ _))⟩))); try go_wp2_with (first | (go_at_call 30; (with_reducible refine (policy_Check.calls a0_0 a0_1 a0_2 a0_3 t104 _ A6.out).mono ?_); rintro e w19 ⟨rfl, hb⟩; replace BK102 := Aside0.mk (blk_below (bo BK102) hb); replace BK103 := Aside0.mk (blk_below (bo BK103) hb); replace HB := Aside0.mk (below_step (bl HB) hb); (try clear hb); (try clear hb2); (try clear hk); (try clear hi); obtain ⟨hcz20_0, hcz20_1, hcz20_2, hcz20_3⟩ := ce4 BK102; obtain ⟨hfz20_0, hfz20_1, hfz20_2, hfz20_3⟩ := fr4 BK102; obtain ⟨hcz21_0, hcz21_1, hcz21_2, hcz21_3⟩ := ce4 BK103; obtain ⟨hfz21_0, hfz21_1, hfz21_2, hfz21_3⟩ := fr4 BK103) | (go_at_call 21; (with_reducible refine (exact_time.calls a1_0 true _ A9.out).mono ?_); rintro e w' ⟨rfl, ⟨nd, rfl⟩⟩; (try first | exact ⟨rfl, _, World.drewN_drewN _ _ _⟩ | exact ⟨rfl, _, Eq.trans (World.drewN_drewN _ _ _) (congrArg (World.drewN _) (Nat.add_assoc _ _ _))⟩))))
      go_meet
      case rel => exact ⟨_, (true), (by first | (with_reducible rfl) | rfl | (simp; done) | (simp [*]; done)), H', ⟨by first | omega | exact Nat.le_refl _⟩, ⟨bo BK102⟩, ⟨bo BK103⟩, ⟨bl HB⟩⟩
    ·replace c10 := Bool.eq_false_iff.mpr c10
     subst c10
     rw [if_neg (show ¬ (false = true) by decide)] at H
     have H' := Aside0.mk H
     clear H
     have hnb22 := NB102_103.out
     have hnc22 := NB103_102.out
     obtain ⟨hcz23_0, hcz23_1, hcz23_2, hcz23_3⟩ := ce4 BK102
     obtain ⟨hfz23_0, hfz23_1, hfz23_2, hfz23_3⟩ := fr4 BK102
     go_wp2_with (first | (go_at_call 30; (with_reducible refine (policy_Check.calls a0_0 a0_1 a0_2 a0_3 t104 _ A6.out).mono ?_); rintro e w24 ⟨rfl, hb⟩; replace BK102 := Aside0.mk (blk_below (bo BK102) hb); replace BK103 := Aside0.mk (blk_below (bo BK103) hb); replace HB := Aside0.mk (below_step (bl HB) hb); (try clear hb); (try clear hb2); (try clear hk); (try clear hi); obtain ⟨hcz25_0, hcz25_1, hcz25_2, hcz25_3⟩ := ce4 BK102; obtain ⟨hfz25_0, hfz25_1, hfz25_2, hfz25_3⟩ := fr4 BK102; obtain ⟨hcz26_0, hcz26_1, hcz26_2, hcz26_3⟩ := ce4 BK103; obtain ⟨hfz26_0, hfz26_1, hfz26_2, hfz26_3⟩ := fr4 BK103) | (go_at_call 21; (with_reducible refine (exact_time.calls a1_0 false _ A9.out).mono ?_); rintro e w' ⟨rfl, ⟨nd, rfl⟩⟩; (try first | exact ⟨rfl, _, World.drewN_drewN _ _ _⟩ | exact ⟨rfl, _, Eq.trans (World.drewN_drewN _ _ _) (congrArg (World.drewN _) (Nat.add_assoc _ _ _))⟩)))
     repeat (go_quiet (first | (go_at_call 30; (with_reducible refine (policy_Check.calls a0_0 a0_1 a0_2 a0_3 t104 _ A6.out).mono ?_); rintro e w24 ⟨rfl, hb⟩; replace BK102 := Aside0.mk (blk_below (bo BK102) hb); replace BK103 := Aside0.mk (blk_below (bo BK103) hb); replace HB := Aside0.mk (below_step (bl HB) hb); (try clear hb); (try clear hb2); (try clear hk); (try clear hi); obtain ⟨hcz25_0, hcz25_1, hcz25_2, hcz25_3⟩ := ce4 BK102; obtain ⟨hfz25_0, hfz25_1, hfz25_2, hfz25_3⟩ := fr4 BK102; obtain ⟨hcz26_0, hcz26_1, hcz26_2, hcz26_3⟩ := ce4 BK103; obtain ⟨hfz26_0, hfz26_1, hfz26_2, hfz26_3⟩ := fr4 BK103) | (go_at_call 21; (with_reducible refine (exact_time.calls a1_0 false _ A9.out).mono ?_); rintro e w' ⟨rfl, ⟨nd, rfl⟩⟩; (try first | exact ⟨rfl, _, World.drewN_drewN _ _ _⟩ | exact ⟨rfl, _, Eq.trans (World.drewN_drewN _ _ _) (congrArg (World.drewN _) (Nat.add_assoc _ _ _))⟩))); try go_wp2_with (first | (go_at_call 30; (with_reducible refine (policy_Check.calls a0_0 a0_1 a0_2 a0_3 t104 _ A6.out).mono ?_); rintro e w24 ⟨rfl, hb⟩; replace BK102 := Aside0.mk (blk_below (bo BK102) hb); replace BK103 := Aside0.mk (blk_below (bo BK103) hb); replace HB := Aside0.mk (below_step (bl HB) hb); (try clear hb); (try clear hb2); (try clear hk); (try clear hi); obtain ⟨hcz25_0, hcz25_1, hcz25_2, hcz25_3⟩ := ce4 BK102; obtain ⟨hfz25_0, hfz25_1, hfz25_2, hfz25_3⟩ := fr4 BK102; obtain ⟨hcz26_0, hcz26_1, hcz26_2, hcz26_3⟩ := ce4 BK103; obtain ⟨hfz26_0, hfz26_1, hfz26_2, hfz26_3⟩ := fr4 BK103) | (go_at_call 21; (with_reducible refine (exact_time.calls a1_0 false _ A9.out).mono ?_); rintro e w' ⟨rfl, ⟨nd, rfl⟩⟩; (try first | exact ⟨rfl, _, World.drewN_drewN _ _ _⟩ | exact ⟨rfl, _, Eq.trans (World.drewN_drewN _ _ _) (congrArg (World.drewN _) (Nat.add_assoc _ _ _))⟩))))
     go_meet
     case rel => exact ⟨_, (true), (by first | (with_reducible rfl) | rfl | (simp; done) | (simp [*]; done)), H', ⟨by first | omega | exact Nat.le_refl _⟩, ⟨bo BK102⟩, ⟨bo BK103⟩, ⟨bl HB⟩⟩
   ·rw [if_neg c8] at H
    have c8b0 : (a0_0 == 4) = false := beq_eq_false_iff_ne.mpr c8
    have c8b1 : (a0_0 != 4) = true := bne_iff_ne.mpr c8
    have H' := Aside0.mk H
    clear H
    have hnb27 := NB102_103.out
    have hnc27 := NB103_102.out
    obtain ⟨hcz28_0, hcz28_1, hcz28_2, hcz28_3⟩ := ce4 BK102
    obtain ⟨hfz28_0, hfz28_1, hfz28_2, hfz28_3⟩ := fr4 BK102
    go_wp2_with (first | (go_at_call 30; (with_reducible refine (policy_Check.calls a0_0 a0_1 a0_2 a0_3 t104 _ A6.out).mono ?_); rintro e w29 ⟨rfl, hb⟩; replace BK102 := Aside0.mk (blk_below (bo BK102) hb); replace BK103 := Aside0.mk (blk_below (bo BK103) hb); replace HB := Aside0.mk (below_step (bl HB) hb); (try clear hb); (try clear hb2); (try clear hk); (try clear hi); obtain ⟨hcz30_0, hcz30_1, hcz30_2, hcz30_3⟩ := ce4 BK102; obtain ⟨hfz30_0, hfz30_1, hfz30_2, hfz30_3⟩ := fr4 BK102))
    repeat (go_quiet (first | (go_at_call 30; (with_reducible refine (policy_Check.calls a0_0 a0_1 a0_2 a0_3 t104 _ A6.out).mono ?_); rintro e w29 ⟨rfl, hb⟩; replace BK102 := Aside0.mk (blk_below (bo BK102) hb); replace BK103 := Aside0.mk (blk_below (bo BK103) hb); replace HB := Aside0.mk (below_step (bl HB) hb); (try clear hb); (try clear hb2); (try clear hk); (try clear hi); obtain ⟨hcz30_0, hcz30_1, hcz30_2, hcz30_3⟩ := ce4 BK102; obtain ⟨hfz30_0, hfz30_1, hfz30_2, hfz30_3⟩ := fr4 BK102)); try go_wp2_with (first | (go_at_call 30; (with_reducible refine (policy_Check.calls a0_0 a0_1 a0_2 a0_3 t104 _ A6.out).mono ?_); rintro e w29 ⟨rfl, hb⟩; replace BK102 := Aside0.mk (blk_below (bo BK102) hb); replace BK103 := Aside0.mk (blk_below (bo BK103) hb); replace HB := Aside0.mk (below_step (bl HB) hb); (try clear hb); (try clear hb2); (try clear hk); (try clear hi); obtain ⟨hcz30_0, hcz30_1, hcz30_2, hcz30_3⟩ := ce4 BK102; obtain ⟨hfz30_0, hfz30_1, hfz30_2, hfz30_3⟩ := fr4 BK102)))
    go_meet
    case rel => exact ⟨_, (true), (by first | (with_reducible rfl) | rfl | (simp; done) | (simp [*]; done)), H', ⟨by first | omega | exact Nat.le_refl _⟩, ⟨bo BK102⟩, ⟨bo BK103⟩, ⟨bl HB⟩⟩
  ·rw [if_neg c7] at H
   have c7b0 : (t104 == 0) = false := beq_eq_false_iff_ne.mpr c7
   have c7b1 : (t104 != 0) = true := bne_iff_ne.mpr c7
   (first | rw [c7b0] | (simp only [i64_w, i32_w]; rw [c7b0]) | skip)
   have H' := Aside0.mk H
   clear H
   have hnb31 := NB102_103.out
   have hnc31 := NB103_102.out
   obtain ⟨hcz32_0, hcz32_1, hcz32_2, hcz32_3⟩ := ce4 BK102
   obtain ⟨hfz32_0, hfz32_1, hfz32_2, hfz32_3⟩ := fr4 BK102
   go_wp2_with (first | (go_at_call 30; (with_reducible refine (policy_Check.calls a0_0 a0_1 a0_2 a0_3 t104 _ A6.out).mono ?_); rintro e w33 ⟨rfl, hb⟩; replace BK102 := Aside0.mk (blk_below (bo BK102) hb); replace BK103 := Aside0.mk (blk_below (bo BK103) hb); replace HB := Aside0.mk (below_step (bl HB) hb); (try clear hb); (try clear hb2); (try clear hk); (try clear hi)))
   repeat (go_quiet (first | (go_at_call 30; (with_reducible refine (policy_Check.calls a0_0 a0_1 a0_2 a0_3 t104 _ A6.out).mono ?_); rintro e w33 ⟨rfl, hb⟩; replace BK102 := Aside0.mk (blk_below (bo BK102) hb); replace BK103 := Aside0.mk (blk_below (bo BK103) hb); replace HB := Aside0.mk (below_step (bl HB) hb); (try clear hb); (try clear hb2); (try clear hk); (try clear hi))); try go_wp2_with (first | (go_at_call 30; (with_reducible refine (policy_Check.calls a0_0 a0_1 a0_2 a0_3 t104 _ A6.out).mono ?_); rintro e w33 ⟨rfl, hb⟩; replace BK102 := Aside0.mk (blk_below (bo BK102) hb); replace BK103 := Aside0.mk (blk_below (bo BK103) hb); replace HB := Aside0.mk (below_step (bl HB) hb); (try clear hb); (try clear hb2); (try clear hk); (try clear hi))))
   go_meet
   case rel => exact ⟨_, (true), (by first | (with_reducible rfl) | rfl | (simp; done) | (simp [*]; done)), H', ⟨by first | omega | exact Nat.le_refl _⟩, ⟨bo BK102⟩, ⟨bo BK103⟩, ⟨bl HB⟩⟩
 case rest =>
  clear HC3
  try clear c7; try clear c7b0; try clear c7b1; try clear c8; try clear c8b0; try clear c8b1; try clear c10; try clear c11; try clear c11b0; try clear c11b1; try clear hcz13_0; try clear hcz13_1; try clear hcz13_2; try clear hcz13_3; try clear hcz15_0; try clear hcz15_1; try clear hcz15_2; try clear hcz15_3; try clear hcz16_0; try clear hcz16_1; try clear hcz16_2; try clear hcz16_3; try clear hcz18_0; try clear hcz18_1; try clear hcz18_2; try clear hcz18_3; try clear hcz20_0; try clear hcz20_1; try clear hcz20_2; try clear hcz20_3; try clear hcz21_0; try clear hcz21_1; try clear hcz21_2; try clear hcz21_3; try clear hcz23_0; try clear hcz23_1; try clear hcz23_2; try clear hcz23_3; try clear hcz25_0; try clear hcz25_1; try clear hcz25_2; try clear hcz25_3; try clear hcz26_0; try clear hcz26_1; try clear hcz26_2; try clear hcz26_3; try clear hcz28_0; try clear hcz28_1; try clear hcz28_2; try clear hcz28_3; try clear hcz30_0; try clear hcz30_1; try clear hcz30_2; try clear hcz30_3; try clear hcz32_0; try clear hcz32_1; try clear hcz32_2; try clear hcz32_3; try clear hfz13_0; try clear hfz13_1; try clear hfz13_2; try clear hfz13_3; try clear hfz15_0; try clear hfz15_1; try clear hfz15_2; try clear hfz15_3; try clear hfz16_0; try clear hfz16_1; try clear hfz16_2; try clear hfz16_3; try clear hfz18_0; try clear hfz18_1; try clear hfz18_2; try clear hfz18_3; try clear hfz20_0; try clear hfz20_1; try clear hfz20_2; try clear hfz20_3; try clear hfz21_0; try clear hfz21_1; try clear hfz21_2; try clear hfz21_3; try clear hfz23_0; try clear hfz23_1; try clear hfz23_2; try clear hfz23_3; try clear hfz25_0; try clear hfz25_1; try clear hfz25_2; try clear hfz25_3; try clear hfz26_0; try clear hfz26_1; try clear hfz26_2; try clear hfz26_3; try clear hfz28_0; try clear hfz28_1; try clear hfz28_2; try clear hfz28_3; try clear hfz30_0; try clear hfz30_1; try clear hfz30_2; try clear hfz30_3; try clear hfz32_0; try clear hfz32_1; try clear hfz32_2; try clear hfz32_3
  obtain ⟨kq, x33_2, rfl, HA, HJ2, BK102, BK103, HB⟩ := hcut
  cases kq with
  | zero => exact absurd HA.out (by simp [exact_May.j0])
  | succ kj2 =>
   have H := HA.out
   clear HA
   simp only [exact_May.j0] at H
   by_cases c34 : x33_2 = true
   ·subst c34
    rw [if_pos rfl] at H
    obtain rfl := Option.some.inj H
    go_wp2
    repeat (go_quiet (fail); try go_wp2)
    go_ret
    exact ⟨by first | (with_reducible rfl) | rfl | (simp [errW_none, errW_some] <;> rfl) | (simp [*, errW_none, errW_some] <;> rfl), bl HB⟩
   ·replace c34 := Bool.eq_false_iff.mpr c34
    subst c34
    rw [if_neg (show ¬ (false = true) by decide)] at H
    obtain ⟨ji35, hji35⟩ : ∃ j_ : Int, (mx (-1) (wrap64 (a1_0 - a0_2))) = j_ := ⟨_, rfl⟩
    replace H : (exact_May.l0 kj2 0 ji35 l1_3 (l1_3.length : Int) 0 a0_0 a0_1 a0_2 a0_3 a1_0 a1_1 l1_2 l1_3) = some r := by first | (rw [hji35] at H; exact H) | (simp only [hji35] at H ⊢; exact H)
    have hji35_ : (if (-1) < (wrap64 (a1_0 - a0_2)) then (wrap64 (a1_0 - a0_2)) else (-1)) = ji35 := hji35
    have H' := Aside0.mk H
    clear H
    have hnb36 := NB103_102.out
    have hnc36 := NB102_103.out
    obtain ⟨hcz37_0, hcz37_1, hcz37_2, hcz37_3⟩ := ce4 BK103
    obtain ⟨hfz37_0, hfz37_1, hfz37_2, hfz37_3⟩ := fr4 BK103
    obtain ⟨hcz38_0, hcz38_1, hcz38_2, hcz38_3⟩ := ce4 BK102
    obtain ⟨hfz38_0, hfz38_1, hfz38_2, hfz38_3⟩ := fr4 BK102
    go_wp2
    repeat (go_quiet (fail); try go_wp2)
    go_loopg [5, 6, 43] kj2 (fun kq v5 v6 v43 w' => ∃ (x5_2 : Int) (x6_2 : Int) (x43_2 : Int), v5 = .int .i64 x5_2 ∧ v6 = .int .i64 x6_2 ∧ v43 = .int .i64 x43_2 ∧ Aside0 (exact_May.l0 kq x5_2 x6_2 l1_3 (l1_3.length : Int) x43_2 a0_0 a0_1 a0_2 a0_3 a1_0 a1_1 l1_2 l1_3 = some r) ∧ Aside0 (kq ≤ kj2) ∧ Aside0 (w'.heap[gb102]? = some (.cells #[.int .i64 a0_0, .int .i64 a0_1, .int .i64 a0_2, .int .i64 a0_3] 23 (0, 0))) ∧ Aside0 (w'.heap[gb103]? = some (.cells #[.int .i64 a1_0, .int .i64 a1_1, (.slice A1_2 l1_2.length c1_2), (.slice A1_3 l1_3.length c1_3)] 27 (0, 0))) ∧ Aside0 (Below w.heap.size w w'))
    case atStart => exact ⟨(0), (ji35), (0), (by first | (with_reducible rfl) | (simp only [← hji35]; with_reducible rfl) | (simp only [← hji35]; done) | rfl | (simp; done) | (simp [*]; done)), (by first | (with_reducible rfl) | (simp only [← hji35]; with_reducible rfl) | (simp only [← hji35]; done) | rfl | (simp; done) | (simp only [← hji35] <;> (first | rfl | simp)) | (simp [*]; done)), (by first | (with_reducible rfl) | (simp only [← hji35]; with_reducible rfl) | (simp only [← hji35]; done) | rfl | (simp; done) | (simp [*]; done)), H', ⟨Nat.le_refl _⟩, ⟨bo BK102⟩, ⟨bo BK103⟩, ⟨bl HB⟩⟩
    case round =>
     clear H'
     try clear c7; try clear c7b0; try clear c7b1; try clear c8; try clear c8b0; try clear c8b1; try clear c10; try clear c11; try clear c11b0; try clear c11b1; try clear c34; try clear hcz13_0; try clear hcz13_1; try clear hcz13_2; try clear hcz13_3; try clear hcz15_0; try clear hcz15_1; try clear hcz15_2; try clear hcz15_3; try clear hcz16_0; try clear hcz16_1; try clear hcz16_2; try clear hcz16_3; try clear hcz18_0; try clear hcz18_1; try clear hcz18_2; try clear hcz18_3; try clear hcz20_0; try clear hcz20_1; try clear hcz20_2; try clear hcz20_3; try clear hcz21_0; try clear hcz21_1; try clear hcz21_2; try clear hcz21_3; try clear hcz23_0; try clear hcz23_1; try clear hcz23_2; try clear hcz23_3; try clear hcz25_0; try clear hcz25_1; try clear hcz25_2; try clear hcz25_3; try clear hcz26_0; try clear hcz26_1; try clear hcz26_2; try clear hcz26_3; try clear hcz28_0; try clear hcz28_1; try clear hcz28_2; try clear hcz28_3; try clear hcz30_0; try clear hcz30_1; try clear hcz30_2; try clear hcz30_3; try clear hcz32_0; try clear hcz32_1; try clear hcz32_2; try clear hcz32_3; try clear hcz37_0; try clear hcz37_1; try clear hcz37_2; try clear hcz37_3; try clear hcz38_0; try clear hcz38_1; try clear hcz38_2; try clear hcz38_3; try clear hfz13_0; try clear hfz13_1; try clear hfz13_2; try clear hfz13_3; try clear hfz15_0; try clear hfz15_1; try clear hfz15_2; try clear hfz15_3; try clear hfz16_0; try clear hfz16_1; try clear hfz16_2; try clear hfz16_3; try clear hfz18_0; try clear hfz18_1; try clear hfz18_2; try clear hfz18_3; try clear hfz20_0; try clear hfz20_1; try clear hfz20_2; try clear hfz20_3; try clear hfz21_0; try clear hfz21_1; try clear hfz21_2; try clear hfz21_3; try clear hfz23_0; try clear hfz23_1; try clear hfz23_2; try clear hfz23_3; try clear hfz25_0; try clear hfz25_1; try clear hfz25_2; try clear hfz25_3; try clear hfz26_0; try clear hfz26_1; try clear hfz26_2; try clear hfz26_3; try clear hfz28_0; try clear hfz28_1; try clear hfz28_2; try clear hfz28_3; try clear hfz30_0; try clear hfz30_1; try clear hfz30_2; try clear hfz30_3; try clear hfz32_0; try clear hfz32_1; try clear hfz32_2; try clear hfz32_3; try clear hfz37_0; try clear hfz37_1; try clear hfz37_2; try clear hfz37_3; try clear hfz38_0; try clear hfz38_1; try clear hfz38_2; try clear hfz38_3
     obtain ⟨x5_2, x6_2, x43_2, rfl, rfl, rfl, HA, HK2, BK102, BK103, HB⟩ := hrel
     cases gk with
     | zero => exact absurd HA.out (by simp [exact_May.l0])
     | succ k2 =>
      have H := HA.out
      clear HA
      simp only [exact_May.l0] at H
      by_cases c39 : x43_2 < (l1_3.length : Int)
      ·rw [if_pos c39] at H
       have c39b0 : decide (x43_2 < (l1_3.length : Int)) = true := decide_eq_true c39
       clear c39
       by_cases c40 : 0 ≤ x43_2
       ·rw [if_pos c40] at H
        have c40b0 : decide (0 ≤ x43_2) = true := decide_eq_true c40
        clear c40
        by_cases c41 : x43_2 < (l1_3.length : Int)
        ·rw [if_pos c41] at H
         have c41b0 : decide (x43_2 < (l1_3.length : Int)) = true := decide_eq_true c41
         clear c41
         have HC42 := Aside0.mk H
         clear H
         have p106 : 0 ≤ (x43_2 : Int) := of_decide_eq_true (by first | (with_reducible assumption) | assumption)
         have q106 : x43_2 < (l1_3.length : Int) := of_decide_eq_true (by first | (with_reducible assumption) | assumption)
         obtain ⟨ad106, e106, hx106_0, hx106_1⟩ := at_T50 HR1_3.out x43_2 p106 q106
         cases e106
         replace hx106_0 := (HB.out.cell (World.block_lt_of_cell? w _ hx106_0)).trans hx106_0
         replace hx106_1 := (HB.out.cell (World.block_lt_of_cell? w _ hx106_1)).trans hx106_1
         replace p106 := eq_true p106
         replace q106 := eq_true q106
         go_upto_region 7 with (first | ((with_reducible refine gate_dst (N := 8) rfl ?_); (try (refine gate_guard (by rfl) ?_; dsimp only)); refine box_event ?hg (N := 8) ?hd (cs := #[.int .i64 0, .int .i64 0]) (t := 50) ?hr ?_; (case hd => rfl); (case hg => rfl); (case hr => first | (go_simp; done) | (go_simp; rfl)); intro gb107 hg w43 hbox hb; have BK107 := Aside0.mk (hbox); have GW107 := Aside0.mk ((by rw [hg]; exact (below_size (bl HB)) : w.heap.size ≤ gb107)); have GE107 := Aside0.mk ((by rw [hg]; exact (below_size (bl HB)) : w.heap.size ≤ gb107)); have NB102_107 := nb BK102 hg; have NB107_102 := bn BK102 hg; have NB103_107 := nb BK103 hg; have NB107_103 := bn BK103 hg; replace BK102 := Aside0.mk (blk_below (bo BK102) hb); replace BK103 := Aside0.mk (blk_below (bo BK103) hb); replace HB := Aside0.mk (below_step (bl HB) hb); clear hb hbox hg; have hnb44 := NB107_102.out; have hnc44 := NB102_107.out; have hnb45 := NB107_103.out; have hnc45 := NB103_107.out; obtain ⟨hcz46_0, hcz46_1⟩ := ce2 BK107; obtain ⟨hfz46_0, hfz46_1⟩ := fr2 BK107))
         repeat (go_quiet (first | ((with_reducible refine gate_dst (N := 8) rfl ?_); (try (refine gate_guard (by rfl) ?_; dsimp only)); refine box_event ?hg (N := 8) ?hd (cs := #[.int .i64 0, .int .i64 0]) (t := 50) ?hr ?_; (case hd => rfl); (case hg => rfl); (case hr => first | (go_simp; done) | (go_simp; rfl)); intro gb107 hg w43 hbox hb; have BK107 := Aside0.mk (hbox); have GW107 := Aside0.mk ((by rw [hg]; exact (below_size (bl HB)) : w.heap.size ≤ gb107)); have GE107 := Aside0.mk ((by rw [hg]; exact (below_size (bl HB)) : w.heap.size ≤ gb107)); have NB102_107 := nb BK102 hg; have NB107_102 := bn BK102 hg; have NB103_107 := nb BK103 hg; have NB107_103 := bn BK103 hg; replace BK102 := Aside0.mk (blk_below (bo BK102) hb); replace BK103 := Aside0.mk (blk_below (bo BK103) hb); replace HB := Aside0.mk (below_step (bl HB) hb); clear hb hbox hg; have hnb44 := NB107_102.out; have hnc44 := NB102_107.out; have hnb45 := NB107_103.out; have hnc45 := NB103_107.out; obtain ⟨hcz46_0, hcz46_1⟩ := ce2 BK107; obtain ⟨hfz46_0, hfz46_1⟩ := fr2 BK107)); go_upto_region 7 with (first | ((with_reducible refine gate_dst (N := 8) rfl ?_); (try (refine gate_guard (by rfl) ?_; dsimp only)); refine box_event ?hg (N := 8) ?hd (cs := #[.int .i64 0, .int .i64 0]) (t := 50) ?hr ?_; (case hd => rfl); (case hg => rfl); (case hr => first | (go_simp; done) | (go_simp; rfl)); intro gb107 hg w43 hbox hb; have BK107 := Aside0.mk (hbox); have GW107 := Aside0.mk ((by rw [hg]; exact (below_size (bl HB)) : w.heap.size ≤ gb107)); have GE107 := Aside0.mk ((by rw [hg]; exact (below_size (bl HB)) : w.heap.size ≤ gb107)); have NB102_107 := nb BK102 hg; have NB107_102 := bn BK102 hg; have NB103_107 := nb BK103 hg; have NB107_103 := bn BK103 hg; replace BK102 := Aside0.mk (blk_below (bo BK102) hb); replace BK103 := Aside0.mk (blk_below (bo BK103) hb); replace HB := Aside0.mk (below_step (bl HB) hb); clear hb hbox hg; have hnb44 := NB107_102.out; have hnc44 := NB102_107.out; have hnb45 := NB107_103.out; have hnc45 := NB103_107.out; obtain ⟨hcz46_0, hcz46_1⟩ := ce2 BK107; obtain ⟨hfz46_0, hfz46_1⟩ := fr2 BK107)))
         (try simp only [Act.put, List.setIfInBounds_toArray, List.set_cons_zero, List.set_cons_succ])
         go_cut [69] (fun v69 wc => ∃ (kq : Nat) (x69_41 : Bool), v69 = .bool x69_41 ∧ Aside0 (exact_May.j2 kq x5_2 l1_3 (l1_3.length : Int) x43_2 x69_41 a0_0 a0_1 a0_2 a0_3 a1_0 a1_1 l1_2 l1_3 ((rd_T50 l1_3 x43_2).f0) ((rd_T50 l1_3 x43_2).f1) = some r) ∧ Aside0 (kq ≤ k2) ∧ Aside0 (wc.heap[gb102]? = some (.cells #[.int .i64 a0_0, .int .i64 a0_1, .int .i64 a0_2, .int .i64 a0_3] 23 (0, 0))) ∧ Aside0 (wc.heap[gb103]? = some (.cells #[.int .i64 a1_0, .int .i64 a1_1, (.slice A1_2 l1_2.length c1_2), (.slice (some ad106) l1_3.length c1_3)] 27 (0, 0))) ∧ Aside0 (wc.heap[gb107]? = some (.cells #[.int .i64 ((rd_T50 l1_3 x43_2).f0), .int .i64 ((rd_T50 l1_3 x43_2).f1)] 50 (0, 0))) ∧ Aside0 (Below w.heap.size w wc))
         case first =>
          have H := HC42.out
          clear HC42
          by_cases c47 : ((rd_T50 l1_3 x43_2).f0) ≤ x6_2
          ·rw [if_pos c47] at H
           have c47b0 : decide (((rd_T50 l1_3 x43_2).f0) ≤ x6_2) = true := decide_eq_true c47
           clear c47
           (first | rw [c47b0] | (simp only [i64_w, i32_w]; rw [c47b0]) | skip)
           have H' := Aside0.mk H
           clear H
           have hnb48 := NB107_102.out
           have hnc48 := NB102_107.out
           have hnb49 := NB107_103.out
           have hnc49 := NB103_107.out
           obtain ⟨hcz50_0, hcz50_1⟩ := ce2 BK107
           obtain ⟨hfz50_0, hfz50_1⟩ := fr2 BK107
           go_wp2
           repeat (go_quiet (fail); try go_wp2)
           go_meet
           case rel => exact ⟨_, (true), (by first | (with_reducible rfl) | rfl | (simp; done) | (simp [*]; done)), H', ⟨by have := HJ2.out; have := HK2.out; first | omega | exact Nat.le_refl _⟩, ⟨by (with_reducible repeat (first | refine blk_drewN ?_ _ | refine blk_drew ?_ | refine blk_alloc ?_ _)); refine blk_far ?_ NB102_107.out _; (with_reducible repeat (first | refine blk_drewN ?_ _ | refine blk_drew ?_ | refine blk_alloc ?_ _)); refine blk_far ?_ NB102_107.out _; (with_reducible repeat (first | refine blk_drewN ?_ _ | refine blk_drew ?_ | refine blk_alloc ?_ _)); exact BK102.out⟩, ⟨by (with_reducible repeat (first | refine blk_drewN ?_ _ | refine blk_drew ?_ | refine blk_alloc ?_ _)); refine blk_far ?_ NB103_107.out _; (with_reducible repeat (first | refine blk_drewN ?_ _ | refine blk_drew ?_ | refine blk_alloc ?_ _)); refine blk_far ?_ NB103_107.out _; (with_reducible repeat (first | refine blk_drewN ?_ _ | refine blk_drew ?_ | refine blk_alloc ?_ _)); exact BK103.out⟩, ⟨by (with_reducible repeat (first | refine blk_drewN ?_ _ | refine blk_drew ?_ | refine blk_alloc ?_ _)); refine blk_put (cs := #[.int .i64 ((rd_T50 l1_3 x43_2).f0), .int .i64 0]) ?_ 1 _ rfl; (with_reducible repeat (first | refine blk_drewN ?_ _ | refine blk_drew ?_ | refine blk_alloc ?_ _)); refine blk_put (cs := #[.int .i64 0, .int .i64 0]) ?_ 0 _ rfl; (with_reducible repeat (first | refine blk_drewN ?_ _ | refine blk_drew ?_ | refine blk_alloc ?_ _)); exact BK107.out⟩, ⟨bl HB⟩⟩
          ·rw [if_neg c47] at H
           have c47b0 : decide (((rd_T50 l1_3 x43_2).f0) ≤ x6_2) = false := decide_eq_false c47
           clear c47
           (first | rw [c47b0] | (simp only [i64_w, i32_w]; rw [c47b0]) | skip)
           by_cases c51 : ((rd_T50 l1_3 x43_2).f0) > a1_0
           ·rw [if_pos c51] at H
            have c51b0 : decide (a1_0 < ((rd_T50 l1_3 x43_2).f0)) = true := decide_eq_true c51
            clear c51
            have H' := Aside0.mk H
            clear H
            have hnb52 := NB107_102.out
            have hnc52 := NB102_107.out
            have hnb53 := NB107_103.out
            have hnc53 := NB103_107.out
            obtain ⟨hcz54_0, hcz54_1⟩ := ce2 BK107
            obtain ⟨hfz54_0, hfz54_1⟩ := fr2 BK107
            have hnb55 := NB103_102.out
            have hnc55 := NB102_103.out
            obtain ⟨hcz56_0, hcz56_1, hcz56_2, hcz56_3⟩ := ce4 BK103
            obtain ⟨hfz56_0, hfz56_1, hfz56_2, hfz56_3⟩ := fr4 BK103
            go_wp2
            repeat (go_quiet (fail); try go_wp2)
            go_meet
            case rel => exact ⟨_, (true), (by first | (with_reducible rfl) | rfl | (simp; done) | (simp [*]; done)), H', ⟨by have := HJ2.out; have := HK2.out; first | omega | exact Nat.le_refl _⟩, ⟨by (with_reducible repeat (first | refine blk_drewN ?_ _ | refine blk_drew ?_ | refine blk_alloc ?_ _)); refine blk_far ?_ NB102_107.out _; (with_reducible repeat (first | refine blk_drewN ?_ _ | refine blk_drew ?_ | refine blk_alloc ?_ _)); refine blk_far ?_ NB102_107.out _; (with_reducible repeat (first | refine blk_drewN ?_ _ | refine blk_drew ?_ | refine blk_alloc ?_ _)); exact BK102.out⟩, ⟨by (with_reducible repeat (first | refine blk_drewN ?_ _ | refine blk_drew ?_ | refine blk_alloc ?_ _)); refine blk_far ?_ NB103_107.out _; (with_reducible repeat (first | refine blk_drewN ?_ _ | refine blk_drew ?_ | refine blk_alloc ?_ _)); refine blk_far ?_ NB103_107.out _; (with_reducible repeat (first | refine blk_drewN ?_ _ | refine blk_drew ?_ | refine blk_alloc ?_ _)); exact BK103.out⟩, ⟨by (with_reducible repeat (first | refine blk_drewN ?_ _ | refine blk_drew ?_ | refine blk_alloc ?_ _)); refine blk_put (cs := #[.int .i64 ((rd_T50 l1_3 x43_2).f0), .int .i64 0]) ?_ 1 _ rfl; (with_reducible repeat (first | refine blk_drewN ?_ _ | refine blk_drew ?_ | refine blk_alloc ?_ _)); refine blk_put (cs := #[.int .i64 0, .int .i64 0]) ?_ 0 _ rfl; (with_reducible repeat (first | refine blk_drewN ?_ _ | refine blk_drew ?_ | refine blk_alloc ?_ _)); exact BK107.out⟩, ⟨bl HB⟩⟩
           ·rw [if_neg c51] at H
            have c51b0 : decide (a1_0 < ((rd_T50 l1_3 x43_2).f0)) = false := decide_eq_false c51
            clear c51
            by_cases c57 : ((rd_T50 l1_3 x43_2).f1) < 1
            ·rw [if_pos c57] at H
             have c57b0 : decide (((rd_T50 l1_3 x43_2).f1) < 1) = true := decide_eq_true c57
             clear c57
             have H' := Aside0.mk H
             clear H
             have hnb58 := NB107_102.out
             have hnc58 := NB102_107.out
             have hnb59 := NB107_103.out
             have hnc59 := NB103_107.out
             obtain ⟨hcz60_0, hcz60_1⟩ := ce2 BK107
             obtain ⟨hfz60_0, hfz60_1⟩ := fr2 BK107
             have hnb61 := NB103_102.out
             have hnc61 := NB102_103.out
             obtain ⟨hcz62_0, hcz62_1, hcz62_2, hcz62_3⟩ := ce4 BK103
             obtain ⟨hfz62_0, hfz62_1, hfz62_2, hfz62_3⟩ := fr4 BK103
             go_wp2
             repeat (go_quiet (fail); try go_wp2)
             go_meet
             case rel => exact ⟨_, (true), (by first | (with_reducible rfl) | rfl | (simp; done) | (simp [*]; done)), H', ⟨by have := HJ2.out; have := HK2.out; first | omega | exact Nat.le_refl _⟩, ⟨by (with_reducible repeat (first | refine blk_drewN ?_ _ | refine blk_drew ?_ | refine blk_alloc ?_ _)); refine blk_far ?_ NB102_107.out _; (with_reducible repeat (first | refine blk_drewN ?_ _ | refine blk_drew ?_ | refine blk_alloc ?_ _)); refine blk_far ?_ NB102_107.out _; (with_reducible repeat (first | refine blk_drewN ?_ _ | refine blk_drew ?_ | refine blk_alloc ?_ _)); exact BK102.out⟩, ⟨by (with_reducible repeat (first | refine blk_drewN ?_ _ | refine blk_drew ?_ | refine blk_alloc ?_ _)); refine blk_far ?_ NB103_107.out _; (with_reducible repeat (first | refine blk_drewN ?_ _ | refine blk_drew ?_ | refine blk_alloc ?_ _)); refine blk_far ?_ NB103_107.out _; (with_reducible repeat (first | refine blk_drewN ?_ _ | refine blk_drew ?_ | refine blk_alloc ?_ _)); exact BK103.out⟩, ⟨by (with_reducible repeat (first | refine blk_drewN ?_ _ | refine blk_drew ?_ | refine blk_alloc ?_ _)); refine blk_put (cs := #[.int .i64 ((rd_T50 l1_3 x43_2).f0), .int .i64 0]) ?_ 1 _ rfl; (with_reducible repeat (first | refine blk_drewN ?_ _ | refine blk_drew ?_ | refine blk_alloc ?_ _)); refine blk_put (cs := #[.int .i64 0, .int .i64 0]) ?_ 0 _ rfl; (with_reducible repeat (first | refine blk_drewN ?_ _ | refine blk_drew ?_ | refine blk_alloc ?_ _)); exact BK107.out⟩, ⟨bl HB⟩⟩
            ·rw [if_neg c57] at H
             have c57b0 : decide (((rd_T50 l1_3 x43_2).f1) < 1) = false := decide_eq_false c57
             clear c57
             have H' := Aside0.mk H
             clear H
             have hnb63 := NB107_102.out
             have hnc63 := NB102_107.out
             have hnb64 := NB107_103.out
             have hnc64 := NB103_107.out
             obtain ⟨hcz65_0, hcz65_1⟩ := ce2 BK107
             obtain ⟨hfz65_0, hfz65_1⟩ := fr2 BK107
             have hnb66 := NB103_102.out
             have hnc66 := NB102_103.out
             obtain ⟨hcz67_0, hcz67_1, hcz67_2, hcz67_3⟩ := ce4 BK103
             obtain ⟨hfz67_0, hfz67_1, hfz67_2, hfz67_3⟩ := fr4 BK103
             obtain ⟨hcz68_0, hcz68_1, hcz68_2, hcz68_3⟩ := ce4 BK102
             obtain ⟨hfz68_0, hfz68_1, hfz68_2, hfz68_3⟩ := fr4 BK102
             go_wp2
             repeat (go_quiet (fail); try go_wp2)
             go_meet
             case rel => exact ⟨_, (decide (((rd_T50 l1_3 x43_2).f1) > a0_1)), (by first | (with_reducible rfl) | rfl | (simp; done) | (simp [*]; done)), H', ⟨by have := HJ2.out; have := HK2.out; first | omega | exact Nat.le_refl _⟩, ⟨by (with_reducible repeat (first | refine blk_drewN ?_ _ | refine blk_drew ?_ | refine blk_alloc ?_ _)); refine blk_far ?_ NB102_107.out _; (with_reducible repeat (first | refine blk_drewN ?_ _ | refine blk_drew ?_ | refine blk_alloc ?_ _)); refine blk_far ?_ NB102_107.out _; (with_reducible repeat (first | refine blk_drewN ?_ _ | refine blk_drew ?_ | refine blk_alloc ?_ _)); exact BK102.out⟩, ⟨by (with_reducible repeat (first | refine blk_drewN ?_ _ | refine blk_drew ?_ | refine blk_alloc ?_ _)); refine blk_far ?_ NB103_107.out _; (with_reducible repeat (first | refine blk_drewN ?_ _ | refine blk_drew ?_ | refine blk_alloc ?_ _)); refine blk_far ?_ NB103_107.out _; (with_reducible repeat (first | refine blk_drewN ?_ _ | refine blk_drew ?_ | refine blk_alloc ?_ _)); exact BK103.out⟩, ⟨by (with_reducible repeat (first | refine blk_drewN ?_ _ | refine blk_drew ?_ | refine blk_alloc ?_ _)); refine blk_put (cs := #[.int .i64 ((rd_T50 l1_3 x43_2).f0), .int .i64 0]) ?_ 1 _ rfl; (with_reducible repeat (first | refine blk_drewN ?_ _ | refine blk_drew ?_ | refine blk_alloc ?_ _)); refine blk_put (cs := #[.int .i64 0, .int .i64 0]) ?_ 0 _ rfl; (with_reducible repeat (first | refine blk_drewN ?_ _ | refine blk_drew ?_ | refine blk_alloc ?_ _)); exact BK107.out⟩, ⟨bl HB⟩⟩
         case rest =>
          clear HC42
          try clear c7; try clear c7b0; try clear c7b1; try clear c8; try clear c8b0; try clear c8b1; try clear c10; try clear c11; try clear c11b0; try clear c11b1; try clear c34; try clear c39; try clear c39b0; try clear c40; try clear c40b0; try clear c41; try clear c41b0; try clear c47; try clear c47b0; try clear c51; try clear c51b0; try clear c57; try clear c57b0; try clear hcz13_0; try clear hcz13_1; try clear hcz13_2; try clear hcz13_3; try clear hcz15_0; try clear hcz15_1; try clear hcz15_2; try clear hcz15_3; try clear hcz16_0; try clear hcz16_1; try clear hcz16_2; try clear hcz16_3; try clear hcz18_0; try clear hcz18_1; try clear hcz18_2; try clear hcz18_3; try clear hcz20_0; try clear hcz20_1; try clear hcz20_2; try clear hcz20_3; try clear hcz21_0; try clear hcz21_1; try clear hcz21_2; try clear hcz21_3; try clear hcz23_0; try clear hcz23_1; try clear hcz23_2; try clear hcz23_3; try clear hcz25_0; try clear hcz25_1; try clear hcz25_2; try clear hcz25_3; try clear hcz26_0; try clear hcz26_1; try clear hcz26_2; try clear hcz26_3; try clear hcz28_0; try clear hcz28_1; try clear hcz28_2; try clear hcz28_3; try clear hcz30_0; try clear hcz30_1; try clear hcz30_2; try clear hcz30_3; try clear hcz32_0; try clear hcz32_1; try clear hcz32_2; try clear hcz32_3; try clear hcz37_0; try clear hcz37_1; try clear hcz37_2; try clear hcz37_3; try clear hcz38_0; try clear hcz38_1; try clear hcz38_2; try clear hcz38_3; try clear hcz46_0; try clear hcz46_1; try clear hcz50_0; try clear hcz50_1; try clear hcz54_0; try clear hcz54_1; try clear hcz56_0; try clear hcz56_1; try clear hcz56_2; try clear hcz56_3; try clear hcz60_0; try clear hcz60_1; try clear hcz62_0; try clear hcz62_1; try clear hcz62_2; try clear hcz62_3; try clear hcz65_0; try clear hcz65_1; try clear hcz67_0; try clear hcz67_1; try clear hcz67_2; try clear hcz67_3; try clear hcz68_0; try clear hcz68_1; try clear hcz68_2; try clear hcz68_3; try clear hfz13_0; try clear hfz13_1; try clear hfz13_2; try clear hfz13_3; try clear hfz15_0; try clear hfz15_1; try clear hfz15_2; try clear hfz15_3; try clear hfz16_0; try clear hfz16_1; try clear hfz16_2; try clear hfz16_3; try clear hfz18_0; try clear hfz18_1; try clear hfz18_2; try clear hfz18_3; try clear hfz20_0; try clear hfz20_1; try clear hfz20_2; try clear hfz20_3; try clear hfz21_0; try clear hfz21_1; try clear hfz21_2; try clear hfz21_3; try clear hfz23_0; try clear hfz23_1; try clear hfz23_2; try clear hfz23_3; try clear hfz25_0; try clear hfz25_1; try clear hfz25_2; try clear hfz25_3; try clear hfz26_0; try clear hfz26_1; try clear hfz26_2; try clear hfz26_3; try clear hfz28_0; try clear hfz28_1; try clear hfz28_2; try clear hfz28_3; try clear hfz30_0; try clear hfz30_1; try clear hfz30_2; try clear hfz30_3; try clear hfz32_0; try clear hfz32_1; try clear hfz32_2; try clear hfz32_3; try clear hfz37_0; try clear hfz37_1; try clear hfz37_2; try clear hfz37_3; try clear hfz38_0; try clear hfz38_1; try clear hfz38_2; try clear hfz38_3; try clear hfz46_0; try clear hfz46_1; try clear hfz50_0; try clear hfz50_1; try clear hfz54_0; try clear hfz54_1; try clear hfz56_0; try clear hfz56_1; try clear hfz56_2; try clear hfz56_3; try clear hfz60_0; try clear hfz60_1; try clear hfz62_0; try clear hfz62_1; try clear hfz62_2; try clear hfz62_3; try clear hfz65_0; try clear hfz65_1; try clear hfz67_0; try clear hfz67_1; try clear hfz67_2; try clear hfz67_3; try clear hfz68_0; try clear hfz68_1; try clear hfz68_2; try clear hfz68_3; try clear hx106_0; try clear hx106_1; try clear p106; try clear q106
          obtain ⟨kq, x69_41, rfl, HA, HJ41, BK102, BK103, BK107, HB⟩ := hcut
          cases kq with
          | zero => exact absurd HA.out (by simp [exact_May.j2])
          | succ kj41 =>
           have H := HA.out
           clear HA
           simp only [exact_May.j2] at H
           by_cases c69 : x69_41 = true
           ·subst c69
            rw [if_pos rfl] at H
            obtain rfl := Option.some.inj H
            go_wp2
            repeat (go_quiet (fail); try go_wp2)
            go_ret
            exact ⟨by first | (with_reducible rfl) | (simp only [← hji35]; with_reducible rfl) | (simp only [← hji35]; done) | rfl | (simp [errW_none, errW_some] <;> rfl) | (simp only [← hji35]; first | rfl | (simp [errW_none, errW_some] <;> rfl)) | (simp [*, errW_none, errW_some] <;> rfl), bl HB⟩
           ·replace c69 := Bool.eq_false_iff.mpr c69
            subst c69
            rw [if_neg (show ¬ (false = true) by decide)] at H
            have H' := Aside0.mk H
            clear H
            have hnb70 := NB107_102.out
            have hnc70 := NB102_107.out
            have hnb71 := NB107_103.out
            have hnc71 := NB103_107.out
            obtain ⟨hcz72_0, hcz72_1⟩ := ce2 BK107
            obtain ⟨hfz72_0, hfz72_1⟩ := fr2 BK107
            go_wp2
            repeat (go_quiet (fail); try go_wp2)
            go_roundg kj41
            case measure => have := HJ2.out; have := HK2.out; have := HJ41.out; omega
            case rel => exact ⟨(wrap64 (x5_2 + ((rd_T50 l1_3 x43_2).f1))), (((rd_T50 l1_3 x43_2).f0)), (wrap64 (x43_2 + 1)), (by first | (with_reducible rfl) | rfl | (simp; done) | (simp [*]; done)), (by first | (with_reducible rfl) | rfl | (simp; done) | (simp [*]; done)), (by first | (with_reducible rfl) | rfl | (simp; done) | (simp [*]; done)), H', ⟨by have := HJ2.out; have := HK2.out; have := HJ41.out; omega⟩, ⟨bo BK102⟩, ⟨bo BK103⟩, ⟨bl HB⟩⟩
        ·rw [if_neg c41] at H
         exact absurd H (by simp)
       ·rw [if_neg c40] at H
        exact absurd H (by simp)
      ·rw [if_neg c39] at H
       have c39b0 : decide (x43_2 < (l1_3.length : Int)) = false := decide_eq_false c39
       clear c39
       obtain rfl := Option.some.inj H
       have hnb73 := NB102_103.out
       have hnc73 := NB103_102.out
       obtain ⟨hcz74_0, hcz74_1, hcz74_2, hcz74_3⟩ := ce4 BK102
       obtain ⟨hfz74_0, hfz74_1, hfz74_2, hfz74_3⟩ := fr4 BK102
       go_wp2
       repeat (go_quiet (fail); try go_wp2)
       go_ret
       exact ⟨by first | (with_reducible rfl) | (simp only [← hji35]; with_reducible rfl) | (simp only [← hji35]; done) | rfl | (simp [errW_none, errW_some] <;> rfl) | (simp only [← hji35]; first | rfl | (simp [errW_none, errW_some] <;> rfl)) | (simp [*, errW_none, errW_some] <;> rfl), bl HB⟩

end Go.Proofs.Ytempbjcmhillgaa.Q
