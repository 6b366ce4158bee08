-- Laid by wip/tools/hprint.py, a program of this repo, over the kit's print; not a text of print.sh.
import Derived.Test.YtpeljhmbaibjcaaQ0
import Derived.Test.YtpeljhmbaibjcaaQ23
import Derived.Test.YtpeljhmbaibjcaaQ24
namespace Go.Proofs.Ytpeljhmbaibjcaa.Q
open Go.RowKit Go.Proofs.Ytpeljhmbaibjcaa.Zip Go.Proofs.YtpeljhmbaibjcaaW.PrintWords Go.Proofs.YtpeljhmbaibjcaaW.PrintLast Go.Proofs.YtpeljhmbaibjcaaW.PrintMore
attribute [local go_sem] max2_int min2_int max_two min_two max_three min_three max_four min_four   -- for this text's walks alone
set_option linter.unusedVariables false
set_option linter.unusedSimpArgs false

/-! ### sandglassref10_May: function 14 -/
def sandglassref10_May.f (k : Nat) (a0_0 : Int) (a0_1 : Int) (a0_2 : Int) (a0_3 : Int) (a1_0 : Int) (a1_1 : Int) (l1_2 : List Int) (l1_3 : List (S57)) : Option (Bool) := (sandglassref09_Check.f k a0_0 a0_1 a0_2 a0_3).bind fun t225 => (if t225 = 0 then (if a0_0 = 1 then ((sandglassref10_Time.f a1_0).bind fun t226 => (if t226 = true then (if a1_1 ≥ 0 then (if a1_1 ≤ (wrap64 (a0_1 * a0_2)) then (if (l1_2.length : Int) = 0 then (some ((l1_3.length : Int) == 0)) else (some false)) else (some false)) else (some false)) else (some false))) else (some false)) else (some false))
theorem sandglassref10_May.mono : ∀ a0 a1 a2 a3 a4 a5 a6 a7 k, LeO (sandglassref10_May.f k a0 a1 a2 a3 a4 a5 a6 a7) (sandglassref10_May.f (k + 1) a0 a1 a2 a3 a4 a5 a6 a7) := by
  intro a0 a1 a2 a3 a4 a5 a6 a7 k
  unfold sandglassref10_May.f
  repeat' first
      | (with_reducible exact sandglassref09_Check.mono _ _ _ _ _)
      | (with_reducible exact LeO.refl _)
      | (with_reducible exact LeO.none _)
      | (with_reducible refine LeO.ite ?_ ?_)
      | (with_reducible refine LeO.bind ?_ (fun _ => ?_))
      | exact sandglassref09_Check.mono _ _ _ _ _
      | exact LeO.none _
      | refine LeO.ite ?_ ?_
      | refine LeO.bind ?_ (fun _ => ?_)
set_option maxHeartbeats 8000000 in
set_option maxRecDepth 100000 in
theorem sandglassref10_May.calls (k : Nat) (a0_0 : Int) (a0_1 : Int) (a0_2 : Int) (a0_3 : Int) (a1_0 : Int) (a1_1 : Int) (A1_2 : Option Addr) (c1_2 : Nat) (l1_2 : List Int) (A1_3 : Option Addr) (c1_3 : Nat) (l1_3 : List (S57)) (r : Bool) (w : World) (hr1_2 : Kd.C (Kd.int .i64) w A1_2 l1_2.length l1_2) (hc1_2 : l1_2.length ≤ c1_2) (hr1_3 : Kd.C k57 w A1_3 l1_3.length l1_3) (hc1_3 : l1_3.length ≤ c1_3) (h : sandglassref10_May.f k a0_0 a0_1 a0_2 a0_3 a1_0 a1_1 l1_2 l1_3 = some r) :
    Calls Try.prog 14 #[.agg #[.int .i64 a0_0, .int .i64 a0_1, .int .i64 a0_2, .int .i64 a0_3], .agg #[.int .i64 a1_0, .int .i64 a1_1, .slice A1_2 l1_2.length c1_2, .slice A1_3 l1_3.length c1_3]] w fun e w' => e = .returned (.bool r) ∧ Below w.heap.size w w' := by
  have hu23 := Try.underlying23
  have hu27 := Try.underlying27
  have HR1_2 := Aside0.mk hr1_2
  have HC1_2 := Aside0.mk hc1_2
  clear hr1_2 hc1_2
  have HR1_3 := Aside0.mk hr1_3
  have HC1_3 := Aside0.mk hc1_3
  clear hr1_3 hc1_3
  have HB := Aside0.mk (Below.refl w.heap.size w)
  have H : ((sandglassref09_Check.f k a0_0 a0_1 a0_2 a0_3).bind fun t225 => (if t225 = 0 then (if a0_0 = 1 then ((sandglassref10_Time.f a1_0).bind fun t226 => (if t226 = true then (if a1_1 ≥ 0 then (if a1_1 ≤ (wrap64 (a0_1 * a0_2)) then (if (l1_2.length : Int) = 0 then (some ((l1_3.length : Int) == 0)) else (some false)) else (some false)) else (some false)) else (some false))) else (some false)) else (some false))) = some r := h
  clear h
  replace H := Option.bind_eq_some_iff.mp H
  obtain ⟨t225, A30, H⟩ := H
  have A3 := Aside0.mk A30
  clear A30
  by_cases c4 : t225 = 0
  · rw [if_pos c4] at H
    have c4b0 : (t225 == 0) = true := beq_iff_eq.mpr c4
    have c4b1 : (t225 != 0) = false := bne_eq_false_iff_eq.mpr c4
    clear c4
    by_cases c5 : a0_0 = 1
    · rw [if_pos c5] at H
      have c5b0 : (a0_0 == 1) = true := beq_iff_eq.mpr c5
      have c5b1 : (a0_0 != 1) = false := bne_eq_false_iff_eq.mpr c5
      clear c5
      replace H := Option.bind_eq_some_iff.mp H
      obtain ⟨t226, A60, H⟩ := H
      have A6 := Aside0.mk A60
      clear A60
      by_cases c7 : t226 = true
      · subst c7
        rw [if_pos rfl] at H
        by_cases c8 : a1_1 ≥ 0
        · rw [if_pos c8] at H
          have c8b0 : decide (0 ≤ a1_1) = true := decide_eq_true c8
          clear c8
          by_cases c9 : a1_1 ≤ (wrap64 (a0_1 * a0_2))
          · rw [if_pos c9] at H
            have c9b0 : decide (a1_1 ≤ (wrap64 (a0_1 * a0_2))) = true := decide_eq_true c9
            clear c9
            by_cases c10 : (l1_2.length : Int) = 0
            · rw [if_pos c10] at H
              have c10b0 : ((l1_2.length : Int) == 0) = true := beq_iff_eq.mpr c10
              have c10b1 : ((l1_2.length : Int) != 0) = false := bne_eq_false_iff_eq.mpr c10
              clear c10
              obtain rfl := Option.some.inj H
              go_enter Try.func14, Try.ntmps14
              go_wp2_with (first | ((with_reducible refine gate_dst (N := 2) rfl ?_); (try (refine gate_guard (by rfl) ?_; dsimp only)); refine box_event ?hg (N := 2) ?hd (cs := #[.int .i64 a0_0, .int .i64 a0_1, .int .i64 a0_2, .int .i64 a0_3]) (t := 23) ?hr ?_; (case hd => rfl); (case hg => rfl); (case hr => first | (go_simp; done) | (go_simp; rfl)); intro gb223 hg w11 hbox hb; have BK223 := Aside0.mk (hbox); have GW223 := Aside0.mk ((by rw [hg]; exact (below_size (bl HB)) : w.heap.size ≤ gb223)); have GE223 := Aside0.mk ((by rw [hg]; exact (below_size (bl HB)) : w.heap.size ≤ gb223)); replace HB := Aside0.mk (below_step (bl HB) hb); clear hb hbox hg) | ((with_reducible refine gate_dst (N := 3) rfl ?_); (try (refine gate_guard (by rfl) ?_; dsimp only)); refine box_event ?hg (N := 3) ?hd (cs := #[.int .i64 a1_0, .int .i64 a1_1, .slice A1_2 l1_2.length c1_2, .slice A1_3 l1_3.length c1_3]) (t := 27) ?hr ?_; (case hd => rfl); (case hg => rfl); (case hr => first | (go_simp; done) | (go_simp; rfl)); intro gb224 hg w12 hbox hb; have BK224 := Aside0.mk (hbox); have GW224 := Aside0.mk ((by rw [hg]; exact (below_size (bl HB)) : w.heap.size ≤ gb224)); have GE224 := Aside0.mk ((by rw [hg]; exact (below_size (bl HB)) : w.heap.size ≤ gb224)); have NB223_224 := nb BK223 hg; have NB224_223 := bn BK223 hg; replace BK223 := Aside0.mk (blk_below (bo BK223) hb); replace HB := Aside0.mk (below_step (bl HB) hb); clear hb hbox hg; have hnb13 := NB223_224.out; have hnc13 := NB224_223.out; obtain ⟨hcz14_0, hcz14_1, hcz14_2, hcz14_3⟩ := ce4 BK223; obtain ⟨hfz14_0, hfz14_1, hfz14_2, hfz14_3⟩ := fr4 BK223) | ((with_reducible refine gate_callee (f := 20) rfl ?_); refine goesL_ (some 6) rfl rfl Try.func20 (by kernel_rfl) rfl #[.agg #[.int .i64 a0_0, .int .i64 a0_1, .int .i64 a0_2, .int .i64 a0_3]] rfl (by (try simp only [List.map_toArray, List.map_cons, List.map_nil]); first | done | rfl | (simp only [List.length_drop, List.length_take]; rfl)) ?_; (with_reducible refine (sandglassref09_Check.calls k a0_0 a0_1 a0_2 a0_3 t225 _ A3.out).mono ?_); rintro e w15 ⟨rfl, hb⟩; refine ⟨_, rfl, ?_⟩; replace BK223 := Aside0.mk (blk_below (bo BK223) hb); replace BK224 := Aside0.mk (blk_below (bo BK224) hb); replace HB := Aside0.mk (below_step (bl HB) hb); (try clear hb); (try clear hb2); (try clear hk); (try clear hi); obtain ⟨hcz16_0, hcz16_1, hcz16_2, hcz16_3⟩ := ce4 BK223; obtain ⟨hfz16_0, hfz16_1, hfz16_2, hfz16_3⟩ := fr4 BK223; obtain ⟨hcz17_0, hcz17_1, hcz17_2, hcz17_3⟩ := ce4 BK224; obtain ⟨hfz17_0, hfz17_1, hfz17_2, hfz17_3⟩ := fr4 BK224) | (go_at_call 27; (with_reducible refine (sandglassref10_Time.calls a1_0 true _ A6.out).mono ?_); rintro e w' ⟨rfl, ⟨nd, rfl⟩⟩))
              go_ret
              exact ⟨by first | (with_reducible rfl) | rfl | (simp [errW_none, errW_some] <;> rfl) | (simp [*, errW_none, errW_some] <;> rfl), bl HB⟩
            · rw [if_neg c10] at H
              have c10b0 : ((l1_2.length : Int) == 0) = false := beq_eq_false_iff_ne.mpr c10
              have c10b1 : ((l1_2.length : Int) != 0) = true := bne_iff_ne.mpr c10
              have c10b2 : ¬ (l1_2 = []) := fun h_ => c10 (by rw [h_]; rfl)
              obtain rfl := Option.some.inj H
              go_enter Try.func14, Try.ntmps14
              go_wp2_with (first | ((with_reducible refine gate_dst (N := 2) rfl ?_); (try (refine gate_guard (by rfl) ?_; dsimp only)); refine box_event ?hg (N := 2) ?hd (cs := #[.int .i64 a0_0, .int .i64 a0_1, .int .i64 a0_2, .int .i64 a0_3]) (t := 23) ?hr ?_; (case hd => rfl); (case hg => rfl); (case hr => first | (go_simp; done) | (go_simp; rfl)); intro gb223 hg w18 hbox hb; have BK223 := Aside0.mk (hbox); have GW223 := Aside0.mk ((by rw [hg]; exact (below_size (bl HB)) : w.heap.size ≤ gb223)); have GE223 := Aside0.mk ((by rw [hg]; exact (below_size (bl HB)) : w.heap.size ≤ gb223)); replace HB := Aside0.mk (below_step (bl HB) hb); clear hb hbox hg) | ((with_reducible refine gate_dst (N := 3) rfl ?_); (try (refine gate_guard (by rfl) ?_; dsimp only)); refine box_event ?hg (N := 3) ?hd (cs := #[.int .i64 a1_0, .int .i64 a1_1, .slice A1_2 l1_2.length c1_2, .slice A1_3 l1_3.length c1_3]) (t := 27) ?hr ?_; (case hd => rfl); (case hg => rfl); (case hr => first | (go_simp; done) | (go_simp; rfl)); intro gb224 hg w19 hbox hb; have BK224 := Aside0.mk (hbox); have GW224 := Aside0.mk ((by rw [hg]; exact (below_size (bl HB)) : w.heap.size ≤ gb224)); have GE224 := Aside0.mk ((by rw [hg]; exact (below_size (bl HB)) : w.heap.size ≤ gb224)); have NB223_224 := nb BK223 hg; have NB224_223 := bn BK223 hg; replace BK223 := Aside0.mk (blk_below (bo BK223) hb); replace HB := Aside0.mk (below_step (bl HB) hb); clear hb hbox hg; have hnb20 := NB223_224.out; have hnc20 := NB224_223.out; obtain ⟨hcz21_0, hcz21_1, hcz21_2, hcz21_3⟩ := ce4 BK223; obtain ⟨hfz21_0, hfz21_1, hfz21_2, hfz21_3⟩ := fr4 BK223) | ((with_reducible refine gate_callee (f := 20) rfl ?_); refine goesL_ (some 6) rfl rfl Try.func20 (by kernel_rfl) rfl #[.agg #[.int .i64 a0_0, .int .i64 a0_1, .int .i64 a0_2, .int .i64 a0_3]] rfl (by (try simp only [List.map_toArray, List.map_cons, List.map_nil]); first | done | rfl | (simp only [List.length_drop, List.length_take]; rfl)) ?_; (with_reducible refine (sandglassref09_Check.calls k a0_0 a0_1 a0_2 a0_3 t225 _ A3.out).mono ?_); rintro e w22 ⟨rfl, hb⟩; refine ⟨_, rfl, ?_⟩; replace BK223 := Aside0.mk (blk_below (bo BK223) hb); replace BK224 := Aside0.mk (blk_below (bo BK224) hb); replace HB := Aside0.mk (below_step (bl HB) hb); (try clear hb); (try clear hb2); (try clear hk); (try clear hi); obtain ⟨hcz23_0, hcz23_1, hcz23_2, hcz23_3⟩ := ce4 BK223; obtain ⟨hfz23_0, hfz23_1, hfz23_2, hfz23_3⟩ := fr4 BK223; obtain ⟨hcz24_0, hcz24_1, hcz24_2, hcz24_3⟩ := ce4 BK224; obtain ⟨hfz24_0, hfz24_1, hfz24_2, hfz24_3⟩ := fr4 BK224) | (go_at_call 27; (with_reducible refine (sandglassref10_Time.calls a1_0 true _ A6.out).mono ?_); rintro e w' ⟨rfl, ⟨nd, rfl⟩⟩))
              go_ret
              exact ⟨by first | (with_reducible rfl) | rfl | (simp [errW_none, errW_some] <;> rfl) | (simp [*, errW_none, errW_some] <;> rfl), bl HB⟩
          · rw [if_neg c9] at H
            have c9b0 : decide (a1_1 ≤ (wrap64 (a0_1 * a0_2))) = false := decide_eq_false c9
            clear c9
            obtain rfl := Option.some.inj H
            go_enter Try.func14, Try.ntmps14
            go_wp2_with (first | ((with_reducible refine gate_dst (N := 2) rfl ?_); (try (refine gate_guard (by rfl) ?_; dsimp only)); refine box_event ?hg (N := 2) ?hd (cs := #[.int .i64 a0_0, .int .i64 a0_1, .int .i64 a0_2, .int .i64 a0_3]) (t := 23) ?hr ?_; (case hd => rfl); (case hg => rfl); (case hr => first | (go_simp; done) | (go_simp; rfl)); intro gb223 hg w25 hbox hb; have BK223 := Aside0.mk (hbox); have GW223 := Aside0.mk ((by rw [hg]; exact (below_size (bl HB)) : w.heap.size ≤ gb223)); have GE223 := Aside0.mk ((by rw [hg]; exact (below_size (bl HB)) : w.heap.size ≤ gb223)); replace HB := Aside0.mk (below_step (bl HB) hb); clear hb hbox hg) | ((with_reducible refine gate_dst (N := 3) rfl ?_); (try (refine gate_guard (by rfl) ?_; dsimp only)); refine box_event ?hg (N := 3) ?hd (cs := #[.int .i64 a1_0, .int .i64 a1_1, .slice A1_2 l1_2.length c1_2, .slice A1_3 l1_3.length c1_3]) (t := 27) ?hr ?_; (case hd => rfl); (case hg => rfl); (case hr => first | (go_simp; done) | (go_simp; rfl)); intro gb224 hg w26 hbox hb; have BK224 := Aside0.mk (hbox); have GW224 := Aside0.mk ((by rw [hg]; exact (below_size (bl HB)) : w.heap.size ≤ gb224)); have GE224 := Aside0.mk ((by rw [hg]; exact (below_size (bl HB)) : w.heap.size ≤ gb224)); have NB223_224 := nb BK223 hg; have NB224_223 := bn BK223 hg; replace BK223 := Aside0.mk (blk_below (bo BK223) hb); replace HB := Aside0.mk (below_step (bl HB) hb); clear hb hbox hg; have hnb27 := NB223_224.out; have hnc27 := NB224_223.out; obtain ⟨hcz28_0, hcz28_1, hcz28_2, hcz28_3⟩ := ce4 BK223; obtain ⟨hfz28_0, hfz28_1, hfz28_2, hfz28_3⟩ := fr4 BK223) | ((with_reducible refine gate_callee (f := 20) rfl ?_); refine goesL_ (some 6) rfl rfl Try.func20 (by kernel_rfl) rfl #[.agg #[.int .i64 a0_0, .int .i64 a0_1, .int .i64 a0_2, .int .i64 a0_3]] rfl (by (try simp only [List.map_toArray, List.map_cons, List.map_nil]); first | done | rfl | (simp only [List.length_drop, List.length_take]; rfl)) ?_; (with_reducible refine (sandglassref09_Check.calls k a0_0 a0_1 a0_2 a0_3 t225 _ A3.out).mono ?_); rintro e w29 ⟨rfl, hb⟩; refine ⟨_, rfl, ?_⟩; replace BK223 := Aside0.mk (blk_below (bo BK223) hb); replace BK224 := Aside0.mk (blk_below (bo BK224) hb); replace HB := Aside0.mk (below_step (bl HB) hb); (try clear hb); (try clear hb2); (try clear hk); (try clear hi); obtain ⟨hcz30_0, hcz30_1, hcz30_2, hcz30_3⟩ := ce4 BK223; obtain ⟨hfz30_0, hfz30_1, hfz30_2, hfz30_3⟩ := fr4 BK223; obtain ⟨hcz31_0, hcz31_1, hcz31_2, hcz31_3⟩ := ce4 BK224; obtain ⟨hfz31_0, hfz31_1, hfz31_2, hfz31_3⟩ := fr4 BK224) | (go_at_call 27; (with_reducible refine (sandglassref10_Time.calls a1_0 true _ A6.out).mono ?_); rintro e w' ⟨rfl, ⟨nd, rfl⟩⟩))
            go_ret
            exact ⟨by first | (with_reducible rfl) | rfl | (simp [errW_none, errW_some] <;> rfl) | (simp [*, errW_none, errW_some] <;> rfl), bl HB⟩
        · rw [if_neg c8] at H
          have c8b0 : decide (0 ≤ a1_1) = false := decide_eq_false c8
          clear c8
          obtain rfl := Option.some.inj H
          go_enter Try.func14, Try.ntmps14
          go_wp2_with (first | ((with_reducible refine gate_dst (N := 2) rfl ?_); (try (refine gate_guard (by rfl) ?_; dsimp only)); refine box_event ?hg (N := 2) ?hd (cs := #[.int .i64 a0_0, .int .i64 a0_1, .int .i64 a0_2, .int .i64 a0_3]) (t := 23) ?hr ?_; (case hd => rfl); (case hg => rfl); (case hr => first | (go_simp; done) | (go_simp; rfl)); intro gb223 hg w32 hbox hb; have BK223 := Aside0.mk (hbox); have GW223 := Aside0.mk ((by rw [hg]; exact (below_size (bl HB)) : w.heap.size ≤ gb223)); have GE223 := Aside0.mk ((by rw [hg]; exact (below_size (bl HB)) : w.heap.size ≤ gb223)); replace HB := Aside0.mk (below_step (bl HB) hb); clear hb hbox hg) | ((with_reducible refine gate_dst (N := 3) rfl ?_); (try (refine gate_guard (by rfl) ?_; dsimp only)); refine box_event ?hg (N := 3) ?hd (cs := #[.int .i64 a1_0, .int .i64 a1_1, .slice A1_2 l1_2.length c1_2, .slice A1_3 l1_3.length c1_3]) (t := 27) ?hr ?_; (case hd => rfl); (case hg => rfl); (case hr => first | (go_simp; done) | (go_simp; rfl)); intro gb224 hg w33 hbox hb; have BK224 := Aside0.mk (hbox); have GW224 := Aside0.mk ((by rw [hg]; exact (below_size (bl HB)) : w.heap.size ≤ gb224)); have GE224 := Aside0.mk ((by rw [hg]; exact (below_size (bl HB)) : w.heap.size ≤ gb224)); have NB223_224 := nb BK223 hg; have NB224_223 := bn BK223 hg; replace BK223 := Aside0.mk (blk_below (bo BK223) hb); replace HB := Aside0.mk (below_step (bl HB) hb); clear hb hbox hg; have hnb34 := NB223_224.out; have hnc34 := NB224_223.out; obtain ⟨hcz35_0, hcz35_1, hcz35_2, hcz35_3⟩ := ce4 BK223; obtain ⟨hfz35_0, hfz35_1, hfz35_2, hfz35_3⟩ := fr4 BK223) | ((with_reducible refine gate_callee (f := 20) rfl ?_); refine goesL_ (some 6) rfl rfl Try.func20 (by kernel_rfl) rfl #[.agg #[.int .i64 a0_0, .int .i64 a0_1, .int .i64 a0_2, .int .i64 a0_3]] rfl (by (try simp only [List.map_toArray, List.map_cons, List.map_nil]); first | done | rfl | (simp only [List.length_drop, List.length_take]; rfl)) ?_; (with_reducible refine (sandglassref09_Check.calls k a0_0 a0_1 a0_2 a0_3 t225 _ A3.out).mono ?_); rintro e w36 ⟨rfl, hb⟩; refine ⟨_, rfl, ?_⟩; replace BK223 := Aside0.mk (blk_below (bo BK223) hb); replace BK224 := Aside0.mk (blk_below (bo BK224) hb); replace HB := Aside0.mk (below_step (bl HB) hb); (try clear hb); (try clear hb2); (try clear hk); (try clear hi); obtain ⟨hcz37_0, hcz37_1, hcz37_2, hcz37_3⟩ := ce4 BK223; obtain ⟨hfz37_0, hfz37_1, hfz37_2, hfz37_3⟩ := fr4 BK223; obtain ⟨hcz38_0, hcz38_1, hcz38_2, hcz38_3⟩ := ce4 BK224; obtain ⟨hfz38_0, hfz38_1, hfz38_2, hfz38_3⟩ := fr4 BK224) | (go_at_call 27; (with_reducible refine (sandglassref10_Time.calls a1_0 true _ A6.out).mono ?_); rintro e w' ⟨rfl, ⟨nd, rfl⟩⟩))
          go_ret
          exact ⟨by first | (with_reducible rfl) | rfl | (simp [errW_none, errW_some] <;> rfl) | (simp [*, errW_none, errW_some] <;> rfl), bl HB⟩
      · replace c7 := Bool.eq_false_iff.mpr c7
        subst c7
        rw [if_neg (show ¬ (false = true) by decide)] at H
        obtain rfl := Option.some.inj H
        go_enter Try.func14, Try.ntmps14
        go_wp2_with (first | ((with_reducible refine gate_dst (N := 2) rfl ?_); (try (refine gate_guard (by rfl) ?_; dsimp only)); refine box_event ?hg (N := 2) ?hd (cs := #[.int .i64 a0_0, .int .i64 a0_1, .int .i64 a0_2, .int .i64 a0_3]) (t := 23) ?hr ?_; (case hd => rfl); (case hg => rfl); (case hr => first | (go_simp; done) | (go_simp; rfl)); intro gb223 hg w39 hbox hb; have BK223 := Aside0.mk (hbox); have GW223 := Aside0.mk ((by rw [hg]; exact (below_size (bl HB)) : w.heap.size ≤ gb223)); have GE223 := Aside0.mk ((by rw [hg]; exact (below_size (bl HB)) : w.heap.size ≤ gb223)); replace HB := Aside0.mk (below_step (bl HB) hb); clear hb hbox hg) | ((with_reducible refine gate_dst (N := 3) rfl ?_); (try (refine gate_guard (by rfl) ?_; dsimp only)); refine box_event ?hg (N := 3) ?hd (cs := #[.int .i64 a1_0, .int .i64 a1_1, .slice A1_2 l1_2.length c1_2, .slice A1_3 l1_3.length c1_3]) (t := 27) ?hr ?_; (case hd => rfl); (case hg => rfl); (case hr => first | (go_simp; done) | (go_simp; rfl)); intro gb224 hg w40 hbox hb; have BK224 := Aside0.mk (hbox); have GW224 := Aside0.mk ((by rw [hg]; exact (below_size (bl HB)) : w.heap.size ≤ gb224)); have GE224 := Aside0.mk ((by rw [hg]; exact (below_size (bl HB)) : w.heap.size ≤ gb224)); have NB223_224 := nb BK223 hg; have NB224_223 := bn BK223 hg; replace BK223 := Aside0.mk (blk_below (bo BK223) hb); replace HB := Aside0.mk (below_step (bl HB) hb); clear hb hbox hg; have hnb41 := NB223_224.out; have hnc41 := NB224_223.out; obtain ⟨hcz42_0, hcz42_1, hcz42_2, hcz42_3⟩ := ce4 BK223; obtain ⟨hfz42_0, hfz42_1, hfz42_2, hfz42_3⟩ := fr4 BK223) | ((with_reducible refine gate_callee (f := 20) rfl ?_); refine goesL_ (some 6) rfl rfl Try.func20 (by kernel_rfl) rfl #[.agg #[.int .i64 a0_0, .int .i64 a0_1, .int .i64 a0_2, .int .i64 a0_3]] rfl (by (try simp only [List.map_toArray, List.map_cons, List.map_nil]); first | done | rfl | (simp only [List.length_drop, List.length_take]; rfl)) ?_; (with_reducible refine (sandglassref09_Check.calls k a0_0 a0_1 a0_2 a0_3 t225 _ A3.out).mono ?_); rintro e w43 ⟨rfl, hb⟩; refine ⟨_, rfl, ?_⟩; replace BK223 := Aside0.mk (blk_below (bo BK223) hb); replace BK224 := Aside0.mk (blk_below (bo BK224) hb); replace HB := Aside0.mk (below_step (bl HB) hb); (try clear hb); (try clear hb2); (try clear hk); (try clear hi); obtain ⟨hcz44_0, hcz44_1, hcz44_2, hcz44_3⟩ := ce4 BK223; obtain ⟨hfz44_0, hfz44_1, hfz44_2, hfz44_3⟩ := fr4 BK223; obtain ⟨hcz45_0, hcz45_1, hcz45_2, hcz45_3⟩ := ce4 BK224; obtain ⟨hfz45_0, hfz45_1, hfz45_2, hfz45_3⟩ := fr4 BK224) | (go_at_call 27; (with_reducible refine (sandglassref10_Time.calls a1_0 false _ A6.out).mono ?_); rintro e w' ⟨rfl, ⟨nd, rfl⟩⟩))
        go_ret
        exact ⟨by first | (with_reducible rfl) | rfl | (simp [errW_none, errW_some] <;> rfl) | (simp [*, errW_none, errW_some] <;> rfl), bl HB⟩
    · rw [if_neg c5] at H
      have c5b0 : (a0_0 == 1) = false := beq_eq_false_iff_ne.mpr c5
      have c5b1 : (a0_0 != 1) = true := bne_iff_ne.mpr c5
      obtain rfl := Option.some.inj H
      go_enter Try.func14, Try.ntmps14
      go_wp2_with (first | ((with_reducible refine gate_dst (N := 2) rfl ?_); (try (refine gate_guard (by rfl) ?_; dsimp only)); refine box_event ?hg (N := 2) ?hd (cs := #[.int .i64 a0_0, .int .i64 a0_1, .int .i64 a0_2, .int .i64 a0_3]) (t := 23) ?hr ?_; (case hd => rfl); (case hg => rfl); (case hr => first | (go_simp; done) | (go_simp; rfl)); intro gb223 hg w46 hbox hb; have BK223 := Aside0.mk (hbox); have GW223 := Aside0.mk ((by rw [hg]; exact (below_size (bl HB)) : w.heap.size ≤ gb223)); have GE223 := Aside0.mk ((by rw [hg]; exact (below_size (bl HB)) : w.heap.size ≤ gb223)); replace HB := Aside0.mk (below_step (bl HB) hb); clear hb hbox hg) | ((with_reducible refine gate_dst (N := 3) rfl ?_); (try (refine gate_guard (by rfl) ?_; dsimp only)); refine box_event ?hg (N := 3) ?hd (cs := #[.int .i64 a1_0, .int .i64 a1_1, .slice A1_2 l1_2.length c1_2, .slice A1_3 l1_3.length c1_3]) (t := 27) ?hr ?_; (case hd => rfl); (case hg => rfl); (case hr => first | (go_simp; done) | (go_simp; rfl)); intro gb224 hg w47 hbox hb; have BK224 := Aside0.mk (hbox); have GW224 := Aside0.mk ((by rw [hg]; exact (below_size (bl HB)) : w.heap.size ≤ gb224)); have GE224 := Aside0.mk ((by rw [hg]; exact (below_size (bl HB)) : w.heap.size ≤ gb224)); have NB223_224 := nb BK223 hg; have NB224_223 := bn BK223 hg; replace BK223 := Aside0.mk (blk_below (bo BK223) hb); replace HB := Aside0.mk (below_step (bl HB) hb); clear hb hbox hg; have hnb48 := NB223_224.out; have hnc48 := NB224_223.out; obtain ⟨hcz49_0, hcz49_1, hcz49_2, hcz49_3⟩ := ce4 BK223; obtain ⟨hfz49_0, hfz49_1, hfz49_2, hfz49_3⟩ := fr4 BK223) | ((with_reducible refine gate_callee (f := 20) rfl ?_); refine goesL_ (some 6) rfl rfl Try.func20 (by kernel_rfl) rfl #[.agg #[.int .i64 a0_0, .int .i64 a0_1, .int .i64 a0_2, .int .i64 a0_3]] rfl (by (try simp only [List.map_toArray, List.map_cons, List.map_nil]); first | done | rfl | (simp only [List.length_drop, List.length_take]; rfl)) ?_; (with_reducible refine (sandglassref09_Check.calls k a0_0 a0_1 a0_2 a0_3 t225 _ A3.out).mono ?_); rintro e w50 ⟨rfl, hb⟩; refine ⟨_, rfl, ?_⟩; replace BK223 := Aside0.mk (blk_below (bo BK223) hb); replace BK224 := Aside0.mk (blk_below (bo BK224) hb); replace HB := Aside0.mk (below_step (bl HB) hb); (try clear hb); (try clear hb2); (try clear hk); (try clear hi); obtain ⟨hcz51_0, hcz51_1, hcz51_2, hcz51_3⟩ := ce4 BK223; obtain ⟨hfz51_0, hfz51_1, hfz51_2, hfz51_3⟩ := fr4 BK223))
      go_ret
      exact ⟨by first | (with_reducible rfl) | rfl | (simp [errW_none, errW_some] <;> rfl) | (simp [*, errW_none, errW_some] <;> rfl), bl HB⟩
  · rw [if_neg c4] at H
    have c4b0 : (t225 == 0) = false := beq_eq_false_iff_ne.mpr c4
    have c4b1 : (t225 != 0) = true := bne_iff_ne.mpr c4
    obtain rfl := Option.some.inj H
    go_enter Try.func14, Try.ntmps14
    go_wp2_with (first | ((with_reducible refine gate_dst (N := 2) rfl ?_); (try (refine gate_guard (by rfl) ?_; dsimp only)); refine box_event ?hg (N := 2) ?hd (cs := #[.int .i64 a0_0, .int .i64 a0_1, .int .i64 a0_2, .int .i64 a0_3]) (t := 23) ?hr ?_; (case hd => rfl); (case hg => rfl); (case hr => first | (go_simp; done) | (go_simp; rfl)); intro gb223 hg w52 hbox hb; have BK223 := Aside0.mk (hbox); have GW223 := Aside0.mk ((by rw [hg]; exact (below_size (bl HB)) : w.heap.size ≤ gb223)); have GE223 := Aside0.mk ((by rw [hg]; exact (below_size (bl HB)) : w.heap.size ≤ gb223)); replace HB := Aside0.mk (below_step (bl HB) hb); clear hb hbox hg) | ((with_reducible refine gate_dst (N := 3) rfl ?_); (try (refine gate_guard (by rfl) ?_; dsimp only)); refine box_event ?hg (N := 3) ?hd (cs := #[.int .i64 a1_0, .int .i64 a1_1, .slice A1_2 l1_2.length c1_2, .slice A1_3 l1_3.length c1_3]) (t := 27) ?hr ?_; (case hd => rfl); (case hg => rfl); (case hr => first | (go_simp; done) | (go_simp; rfl)); intro gb224 hg w53 hbox hb; have BK224 := Aside0.mk (hbox); have GW224 := Aside0.mk ((by rw [hg]; exact (below_size (bl HB)) : w.heap.size ≤ gb224)); have GE224 := Aside0.mk ((by rw [hg]; exact (below_size (bl HB)) : w.heap.size ≤ gb224)); have NB223_224 := nb BK223 hg; have NB224_223 := bn BK223 hg; replace BK223 := Aside0.mk (blk_below (bo BK223) hb); replace HB := Aside0.mk (below_step (bl HB) hb); clear hb hbox hg; have hnb54 := NB223_224.out; have hnc54 := NB224_223.out; obtain ⟨hcz55_0, hcz55_1, hcz55_2, hcz55_3⟩ := ce4 BK223; obtain ⟨hfz55_0, hfz55_1, hfz55_2, hfz55_3⟩ := fr4 BK223) | ((with_reducible refine gate_callee (f := 20) rfl ?_); refine goesL_ (some 6) rfl rfl Try.func20 (by kernel_rfl) rfl #[.agg #[.int .i64 a0_0, .int .i64 a0_1, .int .i64 a0_2, .int .i64 a0_3]] rfl (by (try simp only [List.map_toArray, List.map_cons, List.map_nil]); first | done | rfl | (simp only [List.length_drop, List.length_take]; rfl)) ?_; (with_reducible refine (sandglassref09_Check.calls k a0_0 a0_1 a0_2 a0_3 t225 _ A3.out).mono ?_); rintro e w56 ⟨rfl, hb⟩; refine ⟨_, rfl, ?_⟩; replace BK223 := Aside0.mk (blk_below (bo BK223) hb); replace BK224 := Aside0.mk (blk_below (bo BK224) hb); replace HB := Aside0.mk (below_step (bl HB) hb); (try clear hb); (try clear hb2); (try clear hk); (try clear hi)))
    go_ret
    exact ⟨by first | (with_reducible rfl) | rfl | (simp [errW_none, errW_some] <;> rfl) | (simp [*, errW_none, errW_some] <;> rfl), bl HB⟩

end Go.Proofs.Ytpeljhmbaibjcaa.Q
