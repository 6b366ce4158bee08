import Derived.Test.YtempbjcmhillgaaQ28d
namespace Go.Proofs.Ytempbjcmhillgaa.Q
open Go.RowKit Go.Proofs.Ytempbjcmhillgaa.Zip Go.Proofs.YtempbjcmhillgaaW.PrintWords Go.Proofs.YtempbjcmhillgaaW.PrintLast Go.Proofs.YtempbjcmhillgaaW.PrintMore
attribute [local go_sem] max2_int min2_int max_two min_two max_three min_three max_four min_four   -- for this text's walks alone
set_option linter.unusedVariables false
set_option linter.unusedSimpArgs false

set_option maxHeartbeats 8000000 in
set_option maxRecDepth 100000 in
theorem sandglasslaw13_ExactMay.calls (k : Nat) (a0_0 : Int) (a0_1 : Int) (a0_2 : Int) (a0_3 : Int) (a1_0 : Int) (a1_1 : Int) (A1_2 : Option Addr) (c1_2 : Nat) (l1_2 : List Int) (A1_3 : Option Addr) (c1_3 : Nat) (l1_3 : List (S50)) (a2_0 : Int) (a2_1 : Int) (r : Bool) (w : World) (hr1_2 : Kd.C (Kd.int .i64) w A1_2 l1_2.length l1_2) (hc1_2 : l1_2.length ≤ c1_2) (hr1_3 : Kd.C k50 w A1_3 l1_3.length l1_3) (hc1_3 : l1_3.length ≤ c1_3) (h : sandglasslaw13_ExactMay.f k a0_0 a0_1 a0_2 a0_3 a1_0 a1_1 l1_2 l1_3 a2_0 a2_1 = some r) :
  Calls Try.prog 4 #[.agg #[.int .i64 a0_0, .int .i64 a0_1, .int .i64 a0_2, .int .i64 a0_3], .agg #[.int .i64 a1_0, .int .i64 a1_1, .slice A1_2 l1_2.length c1_2, .slice A1_3 l1_3.length c1_3], .agg #[.int .i64 a2_0, .int .i64 a2_1]] w fun e w' => e = .returned (.bool r) ∧ Below w.heap.size w w' := by
 have hu23 := Try.underlying23
 have hu27 := Try.underlying27
 have hu28 := Try.underlying28
 have hu32 := Try.underlying32
 have HR1_2 := Aside0.mk hr1_2
 have HC1_2 := Aside0.mk hc1_2
 clear hr1_2 hc1_2
 have HR1_3 := Aside0.mk hr1_3
 have HC1_3 := Aside0.mk hc1_3
 clear hr1_3 hc1_3
 have HB := Aside0.mk (Below.refl w.heap.size w)
 have H : ((sandglassref10_Few.f a1_0 a1_1 l1_2 l1_3).bind fun t372 => (if t372 = true then ((sandglassref13_May.f k a0_0 a0_1 a0_2 a0_3 a1_0 a1_1 l1_2 l1_3).bind fun t373 => (if t373 = true then (if a2_0 < 0 then (sandglasslaw13_ExactMay.j0 k a2_0 a2_1 true a0_0 a0_1 a0_2 a0_3 a1_0 a1_1 l1_2 l1_3) else (if a2_0 > 549755813888 then (sandglasslaw13_ExactMay.j0 k a2_0 a2_1 true a0_0 a0_1 a0_2 a0_3 a1_0 a1_1 l1_2 l1_3) else (if a1_0 > 549755813888 then (sandglasslaw13_ExactMay.j0 k a2_0 a2_1 true a0_0 a0_1 a0_2 a0_3 a1_0 a1_1 l1_2 l1_3) else ((sandglassref09_Weighs.f a2_1).bind fun t374 => (sandglasslaw13_ExactMay.j0 k a2_0 a2_1 (!t374) a0_0 a0_1 a0_2 a0_3 a1_0 a1_1 l1_2 l1_3))))) else (sandglasslaw13_ExactMay.j0 k a2_0 a2_1 true a0_0 a0_1 a0_2 a0_3 a1_0 a1_1 l1_2 l1_3))) else (sandglasslaw13_ExactMay.j0 k a2_0 a2_1 true a0_0 a0_1 a0_2 a0_3 a1_0 a1_1 l1_2 l1_3))) = some r := h
 clear h
 have HC4 := Aside0.mk H
 clear H
 go_enter Try.func4, Try.ntmps4
 try go_wp2_with (first | ((with_reducible refine gate_dst (N := 3) rfl ?_); (try (refine gate_guard (by rfl) ?_; dsimp only)); refine box_event ?hg (N := 3) ?hd (cs := #[.int .i64 a0_0, .int .i64 a0_1, .int .i64 a0_2, .int .i64 a0_3]) (t := 23) ?hr ?_; (case hd => rfl); (case hg => rfl); (case hr => first | (go_simp; done) | (go_simp; rfl)); intro gb369 hg w5 hbox hb; have BK369 := Aside0.mk (hbox); have GW369 := Aside0.mk ((by rw [hg]; exact (below_size (bl HB)) : w.heap.size ≤ gb369)); have GE369 := Aside0.mk ((by rw [hg]; exact (below_size (bl HB)) : w.heap.size ≤ gb369)); replace HB := Aside0.mk (below_step (bl HB) hb); clear hb hbox hg) | ((with_reducible refine gate_dst (N := 4) rfl ?_); (try (refine gate_guard (by rfl) ?_; dsimp only)); refine box_event ?hg (N := 4) ?hd (cs := #[.int .i64 a1_0, .int .i64 a1_1, .slice A1_2 l1_2.length c1_2, .slice A1_3 l1_3.length c1_3]) (t := 27) ?hr ?_; (case hd => rfl); (case hg => rfl); (case hr => first | (go_simp; done) | (go_simp; rfl)); intro gb370 hg w6 hbox hb; have BK370 := Aside0.mk (hbox); have GW370 := Aside0.mk ((by rw [hg]; exact (below_size (bl HB)) : w.heap.size ≤ gb370)); have GE370 := Aside0.mk ((by rw [hg]; exact (below_size (bl HB)) : w.heap.size ≤ gb370)); have NB369_370 := nb BK369 hg; have NB370_369 := bn BK369 hg; replace BK369 := Aside0.mk (blk_below (bo BK369) hb); replace HB := Aside0.mk (below_step (bl HB) hb); clear hb hbox hg) | ((with_reducible refine gate_dst (N := 5) rfl ?_); (try (refine gate_guard (by rfl) ?_; dsimp only)); refine box_event ?hg (N := 5) ?hd (cs := #[.int .i64 a2_0, .int .i64 a2_1]) (t := 28) ?hr ?_; (case hd => rfl); (case hg => rfl); (case hr => first | (go_simp; done) | (go_simp; rfl)); intro gb371 hg w7 hbox hb; have BK371 := Aside0.mk (hbox); have GW371 := Aside0.mk ((by rw [hg]; exact (below_size (bl HB)) : w.heap.size ≤ gb371)); have GE371 := Aside0.mk ((by rw [hg]; exact (below_size (bl HB)) : w.heap.size ≤ gb371)); have NB369_371 := nb BK369 hg; have NB371_369 := bn BK369 hg; have NB370_371 := nb BK370 hg; have NB371_370 := bn BK370 hg; replace BK369 := Aside0.mk (blk_below (bo BK369) hb); replace BK370 := Aside0.mk (blk_below (bo BK370) hb); replace HB := Aside0.mk (below_step (bl HB) hb); clear hb hbox hg))
 replace BK369 := Aside0.mk (blk_drew BK369.out)
 replace BK370 := Aside0.mk (blk_drew BK370.out)
 replace BK371 := Aside0.mk (blk_drew BK371.out)
 replace HB := Aside0.mk (below_drew1 HB.out)
 refine start_ (n := 6) (S := fun w' => w'.cell? ⟨gb371, 0, none⟩ = some (.int .i64 a2_0) ∧ w'.cell? ⟨gb371, 1, none⟩ = some (.int .i64 a2_1)) (ds := []) #[false, false, false, false, false, false] (by kernel_rfl) rfl rfl ⟨(blk_cell BK371.out 0).trans rfl, (blk_cell BK371.out 1).trans rfl⟩ (fun hHeld => ?_)
 generalize w7.drew = w8 at BK369 BK370 BK371 HB hHeld ⊢
 refine pureB 0 17 ?_
 refine pureB 2 19 ?_
 refine takeB' 1 18 hHeld ?_
 refine pureB 4 7 ?_
 refine takeB' 3 20 hHeld ?_
 refine pureB 5 8 ?_
 refine done_ (by kernel_rfl) ?_
 go_upto_region 2 with (fail)
 go_cut [47] (fun v47 wc => ∃ (kq : Nat) (x47_3 : Bool), v47 = .bool x47_3 ∧ Aside0 (sandglasslaw13_ExactMay.j0 kq a2_0 a2_1 x47_3 a0_0 a0_1 a0_2 a0_3 a1_0 a1_1 l1_2 l1_3 = some r) ∧ Aside0 (kq ≤ k) ∧ Aside0 (wc.heap[gb369]? = some (.cells #[.int .i64 a0_0, .int .i64 a0_1, .int .i64 a0_2, .int .i64 a0_3] 23 (0, 0))) ∧ Aside0 (wc.heap[gb370]? = some (.cells #[.int .i64 a1_0, .int .i64 a1_1, (.slice A1_2 l1_2.length c1_2), (.slice A1_3 l1_3.length c1_3)] 27 (0, 0))) ∧ Aside0 (wc.heap[gb371]? = some (.cells #[.int .i64 a2_0, .int .i64 a2_1] 28 (0, 0))) ∧ Aside0 (Below w.heap.size w wc))
 case first =>
  as_aux_lemma =>
  have H := HC4.out
  clear HC4
  replace H := Option.bind_eq_some_iff.mp H
  obtain ⟨t372, A90, H⟩ := H
  have A9 := Aside0.mk A90
  clear A90
  by_cases c10 : t372 = true
  ·subst c10
   rw [if_pos rfl] at H
   replace H := Option.bind_eq_some_iff.mp H
   obtain ⟨t373, A110, H⟩ := H
   have A11 := Aside0.mk A110
   clear A110
   by_cases c12 : t373 = true
   ·subst c12
    rw [if_pos rfl] at H
    by_cases c13 : a2_0 < 0
    ·rw [if_pos c13] at H
     have c13b0 : decide (a2_0 < 0) = true := decide_eq_true c13
     clear c13
     (first | rw [c13b0] | (simp only [i64_w, i32_w]; rw [c13b0]) | skip)
     have H' := Aside0.mk H
     clear H
     have hnb14 := NB370_369.out
     have hnc14 := NB369_370.out
     have hnb15 := NB370_371.out
     have hnc15 := NB371_370.out
     obtain ⟨hcz16_0, hcz16_1, hcz16_2, hcz16_3⟩ := ce4 BK370
     obtain ⟨hfz16_0, hfz16_1, hfz16_2, hfz16_3⟩ := fr4 BK370
     go_wp2_with (first | ((with_reducible refine gate_callee (f := 8) rfl ?_); refine goesL_ (some 22) rfl rfl Try.func8 (by kernel_rfl) rfl #[.agg #[.int .i64 a1_0, .int .i64 a1_1, .slice A1_2 l1_2.length c1_2, .slice A1_3 l1_3.length c1_3]] rfl (by (try simp only [List.map_toArray, List.map_cons, List.map_nil]); first | done | rfl | (simp only [List.length_drop, List.length_take]; rfl)) ?_; (with_reducible refine (sandglassref10_Few.calls a1_0 a1_1 _ _ l1_2 _ _ l1_3 true _ ?side1 ?side2 ?side3 ?side4 A9.out).mono ?_); (case side1 => repeat (first | exact (Kd.C_below HR1_2.out HB.out) | (with_reducible refine Kd.C_alloc ?_ _) | (with_reducible refine Kd.C_drewN ?_ _) | (with_reducible refine Kd.C_drew ?_))); (case side2 => exact HC1_2.out); (case side3 => repeat (first | exact (Kd.C_below HR1_3.out HB.out) | (with_reducible refine Kd.C_alloc ?_ _) | (with_reducible refine Kd.C_drewN ?_ _) | (with_reducible refine Kd.C_drew ?_))); (case side4 => exact HC1_3.out); rintro e w17 ⟨rfl, hb⟩; refine ⟨_, rfl, ?_⟩; replace BK369 := Aside0.mk (blk_below (bo BK369) hb); replace BK370 := Aside0.mk (blk_below (bo BK370) hb); replace BK371 := Aside0.mk (blk_below (bo BK371) hb); replace HB := Aside0.mk (below_step (bl HB) hb); (try clear hb); (try clear hb2); (try clear hk); (try clear hi); have hnb18 := NB369_371.out; have hnc18 := NB371_369.out; obtain ⟨hcz19_0, hcz19_1, hcz19_2, hcz19_3⟩ := ce4 BK369; obtain ⟨hfz19_0, hfz19_1, hfz19_2, hfz19_3⟩ := fr4 BK369; obtain ⟨hcz20_0, hcz20_1, hcz20_2, hcz20_3⟩ := ce4 BK370; obtain ⟨hfz20_0, hfz20_1, hfz20_2, hfz20_3⟩ := fr4 BK370) | (go_at_call 14; (with_reducible refine (sandglassref13_May.calls k a0_0 a0_1 a0_2 a0_3 a1_0 a1_1 _ _ l1_2 _ _ l1_3 true _ ?side1 ?side2 ?side3 ?side4 A11.out).mono ?_); (case side1 => repeat (first | exact (Kd.C_below HR1_2.out HB.out) | (with_reducible refine Kd.C_alloc ?_ _) | (with_reducible refine Kd.C_drewN ?_ _) | (with_reducible refine Kd.C_drew ?_))); (case side2 => exact HC1_2.out); (case side3 => repeat (first | exact (Kd.C_below HR1_3.out HB.out) | (with_reducible refine Kd.C_alloc ?_ _) | (with_reducible refine Kd.C_drewN ?_ _) | (with_reducible refine Kd.C_drew ?_))); (case side4 => exact HC1_3.out); rintro e w21 ⟨rfl, hb⟩; replace BK369 := Aside0.mk (blk_below (bo BK369) hb); replace BK370 := Aside0.mk (blk_below (bo BK370) hb); replace BK371 := Aside0.mk (blk_below (bo BK371) hb); replace HB := Aside0.mk (below_step (bl HB) hb); (try clear hb); (try clear hb2); (try clear hk); (try clear hi)))
     go_meet
     case rel => exact ⟨_, (true), (by first | (with_reducible rfl) | rfl | (simp; done) | (simp [*]; done)), H', ⟨by first | omega | exact Nat.le_refl _⟩, ⟨bo BK369⟩, ⟨bo BK370⟩, ⟨bo BK371⟩, ⟨bl HB⟩⟩
    ·rw [if_neg c13] at H
     have c13b0 : decide (a2_0 < 0) = false := decide_eq_false c13
     clear c13
     (first | rw [c13b0] | (simp only [i64_w, i32_w]; rw [c13b0]) | skip)
     by_cases c22 : a2_0 > 549755813888
     ·rw [if_pos c22] at H
      have c22b0 : decide (549755813888 < a2_0) = true := decide_eq_true c22
      clear c22
      have H' := Aside0.mk H
      clear H
      have hnb23 := NB370_369.out
      have hnc23 := NB369_370.out
      have hnb24 := NB370_371.out
      have hnc24 := NB371_370.out
      obtain ⟨hcz25_0, hcz25_1, hcz25_2, hcz25_3⟩ := ce4 BK370
      obtain ⟨hfz25_0, hfz25_1, hfz25_2, hfz25_3⟩ := fr4 BK370
      go_wp2_with (first | ((with_reducible refine gate_callee (f := 8) rfl ?_); refine goesL_ (some 22) rfl rfl Try.func8 (by kernel_rfl) rfl #[.agg #[.int .i64 a1_0, .int .i64 a1_1, .slice A1_2 l1_2.length c1_2, .slice A1_3 l1_3.length c1_3]] rfl (by (try simp only [List.map_toArray, List.map_cons, List.map_nil]); first | done | rfl | (simp only [List.length_drop, List.length_take]; rfl)) ?_; (with_reducible refine (sandglassref10_Few.calls a1_0 a1_1 _ _ l1_2 _ _ l1_3 true _ ?side1 ?side2 ?side3 ?side4 A9.out).mono ?_); (case side1 => repeat (first | exact (Kd.C_below HR1_2.out HB.out) | (with_reducible refine Kd.C_alloc ?_ _) | (with_reducible refine Kd.C_drewN ?_ _) | (with_reducible refine Kd.C_drew ?_))); (case side2 => exact HC1_2.out); (case side3 => repeat (first | exact (Kd.C_below HR1_3.out HB.out) | (with_reducible refine Kd.C_alloc ?_ _) | (with_reducible refine Kd.C_drewN ?_ _) | (with_reducible refine Kd.C_drew ?_))); (case side4 => exact HC1_3.out); rintro e w26 ⟨rfl, hb⟩; refine ⟨_, rfl, ?_⟩; replace BK369 := Aside0.mk (blk_below (bo BK369) hb); replace BK370 := Aside0.mk (blk_below (bo BK370) hb); replace BK371 := Aside0.mk (blk_below (bo BK371) hb); replace HB := Aside0.mk (below_step (bl HB) hb); (try clear hb); (try clear hb2); (try clear hk); (try clear hi); have hnb27 := NB369_371.out; have hnc27 := NB371_369.out; obtain ⟨hcz28_0, hcz28_1, hcz28_2, hcz28_3⟩ := ce4 BK369; obtain ⟨hfz28_0, hfz28_1, hfz28_2, hfz28_3⟩ := fr4 BK369; obtain ⟨hcz29_0, hcz29_1, hcz29_2, hcz29_3⟩ := ce4 BK370; obtain ⟨hfz29_0, hfz29_1, hfz29_2, hfz29_3⟩ := fr4 BK370) | (go_at_call 14; (with_reducible refine (sandglassref13_May.calls k a0_0 a0_1 a0_2 a0_3 a1_0 a1_1 _ _ l1_2 _ _ l1_3 true _ ?side1 ?side2 ?side3 ?side4 A11.out).mono ?_); (case side1 => repeat (first | exact (Kd.C_below HR1_2.out HB.out) | (with_reducible refine Kd.C_alloc ?_ _) | (with_reducible refine Kd.C_drewN ?_ _) | (with_reducible refine Kd.C_drew ?_))); (case side2 => exact HC1_2.out); (case side3 => repeat (first | exact (Kd.C_below HR1_3.out HB.out) | (with_reducible refine Kd.C_alloc ?_ _) | (with_reducible refine Kd.C_drewN ?_ _) | (with_reducible refine Kd.C_drew ?_))); (case side4 => exact HC1_3.out); rintro e w30 ⟨rfl, hb⟩; replace BK369 := Aside0.mk (blk_below (bo BK369) hb); replace BK370 := Aside0.mk (blk_below (bo BK370) hb); replace BK371 := Aside0.mk (blk_below (bo BK371) hb); replace HB := Aside0.mk (below_step (bl HB) hb); (try clear hb); (try clear hb2); (try clear hk); (try clear hi)))
      go_meet
      case rel => exact ⟨_, (true), (by first | (with_reducible rfl) | rfl | (simp; done) | (simp [*]; done)), H', ⟨by first | omega | exact Nat.le_refl _⟩, ⟨bo BK369⟩, ⟨bo BK370⟩, ⟨bo BK371⟩, ⟨bl HB⟩⟩
     ·rw [if_neg c22] at H
      have c22b0 : decide (549755813888 < a2_0) = false := decide_eq_false c22
      clear c22
      by_cases c31 : a1_0 > 549755813888
      ·rw [if_pos c31] at H
       have c31b0 : decide (549755813888 < a1_0) = true := decide_eq_true c31
       clear c31
       have H' := Aside0.mk H
       clear H
       have hnb32 := NB370_369.out
       have hnc32 := NB369_370.out
       have hnb33 := NB370_371.out
       have hnc33 := NB371_370.out
       obtain ⟨hcz34_0, hcz34_1, hcz34_2, hcz34_3⟩ := ce4 BK370
       obtain ⟨hfz34_0, hfz34_1, hfz34_2, hfz34_3⟩ := fr4 BK370
       go_wp2_with (first | ((with_reducible refine gate_callee (f := 8) rfl ?_); refine goesL_ (some 22) rfl rfl Try.func8 (by kernel_rfl) rfl #[.agg #[.int .i64 a1_0, .int .i64 a1_1, .slice A1_2 l1_2.length c1_2, .slice A1_3 l1_3.length c1_3]] rfl (by (try simp only [List.map_toArray, List.map_cons, List.map_nil]); first | done | rfl | (simp only [List.length_drop, List.length_take]; rfl)) ?_; (with_reducible refine (sandglassref10_Few.calls a1_0 a1_1 _ _ l1_2 _ _ l1_3 true _ ?side1 ?side2 ?side3 ?side4 A9.out).mono ?_); (case side1 => repeat (first | exact (Kd.C_below HR1_2.out HB.out) | (with_reducible refine Kd.C_alloc ?_ _) | (with_reducible refine Kd.C_drewN ?_ _) | (with_reducible refine Kd.C_drew ?_))); (case side2 => exact HC1_2.out); (case side3 => repeat (first | exact (Kd.C_below HR1_3.out HB.out) | (with_reducible refine Kd.C_alloc ?_ _) | (with_reducible refine Kd.C_drewN ?_ _) | (with_reducible refine Kd.C_drew ?_))); (case side4 => exact HC1_3.out); rintro e w35 ⟨rfl, hb⟩; refine ⟨_, rfl, ?_⟩; replace BK369 := Aside0.mk (blk_below (bo BK369) hb); replace BK370 := Aside0.mk (blk_below (bo BK370) hb); replace BK371 := Aside0.mk (blk_below (bo BK371) hb); replace HB := Aside0.mk (below_step (bl HB) hb); (try clear hb); (try clear hb2); (try clear hk); (try clear hi); have hnb36 := NB369_371.out; have hnc36 := NB371_369.out; obtain ⟨hcz37_0, hcz37_1, hcz37_2, hcz37_3⟩ := ce4 BK369; obtain ⟨hfz37_0, hfz37_1, hfz37_2, hfz37_3⟩ := fr4 BK369; obtain ⟨hcz38_0, hcz38_1, hcz38_2, hcz38_3⟩ := ce4 BK370; obtain ⟨hfz38_0, hfz38_1, hfz38_2, hfz38_3⟩ := fr4 BK370) | (go_at_call 14; (with_reducible refine (sandglassref13_May.calls k a0_0 a0_1 a0_2 a0_3 a1_0 a1_1 _ _ l1_2 _ _ l1_3 true _ ?side1 ?side2 ?side3 ?side4 A11.out).mono ?_); (case side1 => repeat (first | exact (Kd.C_below HR1_2.out HB.out) | (with_reducible refine Kd.C_alloc ?_ _) | (with_reducible refine Kd.C_drewN ?_ _) | (with_reducible refine Kd.C_drew ?_))); (case side2 => exact HC1_2.out); (case side3 => repeat (first | exact (Kd.C_below HR1_3.out HB.out) | (with_reducible refine Kd.C_alloc ?_ _) | (with_reducible refine Kd.C_drewN ?_ _) | (with_reducible refine Kd.C_drew ?_))); (case side4 => exact HC1_3.out); rintro e w39 ⟨rfl, hb⟩; replace BK369 := Aside0.mk (blk_below (bo BK369) hb); replace BK370 := Aside0.mk (blk_below (bo BK370) hb); replace BK371 := Aside0.mk (blk_below (bo BK371) hb); replace HB := Aside0.mk (below_step (bl HB) hb); (try clear hb); (try clear hb2); (try clear hk); (try clear hi); obtain ⟨hcz40_0, hcz40_1, hcz40_2, hcz40_3⟩ := ce4 BK370; obtain ⟨hfz40_0, hfz40_1, hfz40_2, hfz40_3⟩ := fr4 BK370))
       go_meet
       case rel => exact ⟨_, (true), (by first | (with_reducible rfl) | rfl | (simp; done) | (simp [*]; done)), H', ⟨by first | omega | exact Nat.le_refl _⟩, ⟨bo BK369⟩, ⟨bo BK370⟩, ⟨bo BK371⟩, ⟨bl HB⟩⟩
      ·rw [if_neg c31] at H
       have c31b0 : decide (549755813888 < a1_0) = false := decide_eq_false c31
       clear c31
       replace H := Option.bind_eq_some_iff.mp H
       obtain ⟨t374, A410, H⟩ := H
       have A41 := Aside0.mk A410
       clear A410
       have H' := Aside0.mk H
       clear H
       have hnb42 := NB370_369.out
       have hnc42 := NB369_370.out
       have hnb43 := NB370_371.out
       have hnc43 := NB371_370.out
       obtain ⟨hcz44_0, hcz44_1, hcz44_2, hcz44_3⟩ := ce4 BK370
       obtain ⟨hfz44_0, hfz44_1, hfz44_2, hfz44_3⟩ := fr4 BK370
       go_wp2_with (first | ((with_reducible refine gate_callee (f := 8) rfl ?_); refine goesL_ (some 22) rfl rfl Try.func8 (by kernel_rfl) rfl #[.agg #[.int .i64 a1_0, .int .i64 a1_1, .slice A1_2 l1_2.length c1_2, .slice A1_3 l1_3.length c1_3]] rfl (by (try simp only [List.map_toArray, List.map_cons, List.map_nil]); first | done | rfl | (simp only [List.length_drop, List.length_take]; rfl)) ?_; (with_reducible refine (sandglassref10_Few.calls a1_0 a1_1 _ _ l1_2 _ _ l1_3 true _ ?side1 ?side2 ?side3 ?side4 A9.out).mono ?_); (case side1 => repeat (first | exact (Kd.C_below HR1_2.out HB.out) | (with_reducible refine Kd.C_alloc ?_ _) | (with_reducible refine Kd.C_drewN ?_ _) | (with_reducible refine Kd.C_drew ?_))); (case side2 => exact HC1_2.out); (case side3 => repeat (first | exact (Kd.C_below HR1_3.out HB.out) | (with_reducible refine Kd.C_alloc ?_ _) | (with_reducible refine Kd.C_drewN ?_ _) | (with_reducible refine Kd.C_drew ?_))); (case side4 => exact HC1_3.out); rintro e w45 ⟨rfl, hb⟩; refine ⟨_, rfl, ?_⟩; replace BK369 := Aside0.mk (blk_below (bo BK369) hb); replace BK370 := Aside0.mk (blk_below (bo BK370) hb); replace BK371 := Aside0.mk (blk_below (bo BK371) hb); replace HB := Aside0.mk (below_step (bl HB) hb); (try clear hb); (try clear hb2); (try clear hk); (try clear hi); have hnb46 := NB369_371.out; have hnc46 := NB371_369.out; obtain ⟨hcz47_0, hcz47_1, hcz47_2, hcz47_3⟩ := ce4 BK369; obtain ⟨hfz47_0, hfz47_1, hfz47_2, hfz47_3⟩ := fr4 BK369; obtain ⟨hcz48_0, hcz48_1, hcz48_2, hcz48_3⟩ := ce4 BK370; obtain ⟨hfz48_0, hfz48_1, hfz48_2, hfz48_3⟩ := fr4 BK370) | (go_at_call 14; (with_reducible refine (sandglassref13_May.calls k a0_0 a0_1 a0_2 a0_3 a1_0 a1_1 _ _ l1_2 _ _ l1_3 true _ ?side1 ?side2 ?side3 ?side4 A11.out).mono ?_); (case side1 => repeat (first | exact (Kd.C_below HR1_2.out HB.out) | (with_reducible refine Kd.C_alloc ?_ _) | (with_reducible refine Kd.C_drewN ?_ _) | (with_reducible refine Kd.C_drew ?_))); (case side2 => exact HC1_2.out); (case side3 => repeat (first | exact (Kd.C_below HR1_3.out HB.out) | (with_reducible refine Kd.C_alloc ?_ _) | (with_reducible refine Kd.C_drewN ?_ _) | (with_reducible refine Kd.C_drew ?_))); (case side4 => exact HC1_3.out); rintro e w49 ⟨rfl, hb⟩; replace BK369 := Aside0.mk (blk_below (bo BK369) hb); replace BK370 := Aside0.mk (blk_below (bo BK370) hb); replace BK371 := Aside0.mk (blk_below (bo BK371) hb); replace HB := Aside0.mk (below_step (bl HB) hb); (try clear hb); (try clear hb2); (try clear hk); (try clear hi); obtain ⟨hcz50_0, hcz50_1, hcz50_2, hcz50_3⟩ := ce4 BK370; obtain ⟨hfz50_0, hfz50_1, hfz50_2, hfz50_3⟩ := fr4 BK370) | (go_at_call 19; (with_reducible refine (sandglassref09_Weighs.calls a2_1 t374 _ A41.out).mono ?_); rintro e w' ⟨rfl, ⟨nd, rfl⟩⟩))
       go_meet
       case rel => exact ⟨_, (!t374), (by first | (with_reducible rfl) | rfl | (simp; done) | (simp [*]; done)), H', ⟨by first | omega | exact Nat.le_refl _⟩, ⟨bo BK369⟩, ⟨bo BK370⟩, ⟨bo BK371⟩, ⟨bl HB⟩⟩
   ·replace c12 := Bool.eq_false_iff.mpr c12
    subst c12
    rw [if_neg (show ¬ (false = true) by decide)] at H
    have H' := Aside0.mk H
    clear H
    have hnb51 := NB370_369.out
    have hnc51 := NB369_370.out
    have hnb52 := NB370_371.out
    have hnc52 := NB371_370.out
    obtain ⟨hcz53_0, hcz53_1, hcz53_2, hcz53_3⟩ := ce4 BK370
    obtain ⟨hfz53_0, hfz53_1, hfz53_2, hfz53_3⟩ := fr4 BK370
    go_wp2_with (first | ((with_reducible refine gate_callee (f := 8) rfl ?_); refine goesL_ (some 22) rfl rfl Try.func8 (by kernel_rfl) rfl #[.agg #[.int .i64 a1_0, .int .i64 a1_1, .slice A1_2 l1_2.length c1_2, .slice A1_3 l1_3.length c1_3]] rfl (by (try simp only [List.map_toArray, List.map_cons, List.map_nil]); first | done | rfl | (simp only [List.length_drop, List.length_take]; rfl)) ?_; (with_reducible refine (sandglassref10_Few.calls a1_0 a1_1 _ _ l1_2 _ _ l1_3 true _ ?side1 ?side2 ?side3 ?side4 A9.out).mono ?_); (case side1 => repeat (first | exact (Kd.C_below HR1_2.out HB.out) | (with_reducible refine Kd.C_alloc ?_ _) | (with_reducible refine Kd.C_drewN ?_ _) | (with_reducible refine Kd.C_drew ?_))); (case side2 => exact HC1_2.out); (case side3 => repeat (first | exact (Kd.C_below HR1_3.out HB.out) | (with_reducible refine Kd.C_alloc ?_ _) | (with_reducible refine Kd.C_drewN ?_ _) | (with_reducible refine Kd.C_drew ?_))); (case side4 => exact HC1_3.out); rintro e w54 ⟨rfl, hb⟩; refine ⟨_, rfl, ?_⟩; replace BK369 := Aside0.mk (blk_below (bo BK369) hb); replace BK370 := Aside0.mk (blk_below (bo BK370) hb); replace BK371 := Aside0.mk (blk_below (bo BK371) hb); replace HB := Aside0.mk (below_step (bl HB) hb); (try clear hb); (try clear hb2); (try clear hk); (try clear hi); have hnb55 := NB369_371.out; have hnc55 := NB371_369.out; obtain ⟨hcz56_0, hcz56_1, hcz56_2, hcz56_3⟩ := ce4 BK369; obtain ⟨hfz56_0, hfz56_1, hfz56_2, hfz56_3⟩ := fr4 BK369; obtain ⟨hcz57_0, hcz57_1, hcz57_2, hcz57_3⟩ := ce4 BK370; obtain ⟨hfz57_0, hfz57_1, hfz57_2, hfz57_3⟩ := fr4 BK370) | (go_at_call 14; (with_reducible refine (sandglassref13_May.calls k a0_0 a0_1 a0_2 a0_3 a1_0 a1_1 _ _ l1_2 _ _ l1_3 false _ ?side1 ?side2 ?side3 ?side4 A11.out).mono ?_); (case side1 => repeat (first | exact (Kd.C_below HR1_2.out HB.out) | (with_reducible refine Kd.C_alloc ?_ _) | (with_reducible refine Kd.C_drewN ?_ _) | (with_reducible refine Kd.C_drew ?_))); (case side2 => exact HC1_2.out); (case side3 => repeat (first | exact (Kd.C_below HR1_3.out HB.out) | (with_reducible refine Kd.C_alloc ?_ _) | (with_reducible refine Kd.C_drewN ?_ _) | (with_reducible refine Kd.C_drew ?_))); (case side4 => exact HC1_3.out); rintro e w58 ⟨rfl, hb⟩; replace BK369 := Aside0.mk (blk_below (bo BK369) hb); replace BK370 := Aside0.mk (blk_below (bo BK370) hb); replace BK371 := Aside0.mk (blk_below (bo BK371) hb); replace HB := Aside0.mk (below_step (bl HB) hb); (try clear hb); (try clear hb2); (try clear hk); (try clear hi)))
    go_meet
    case rel => exact ⟨_, (true), (by first | (with_reducible rfl) | rfl | (simp; done) | (simp [*]; done)), H', ⟨by first | omega | exact Nat.le_refl _⟩, ⟨bo BK369⟩, ⟨bo BK370⟩, ⟨bo BK371⟩, ⟨bl HB⟩⟩
  ·replace c10 := Bool.eq_false_iff.mpr c10
   subst c10
   rw [if_neg (show ¬ (false = true) by decide)] at H
   have H' := Aside0.mk H
   clear H
   have hnb59 := NB370_369.out
   have hnc59 := NB369_370.out
   have hnb60 := NB370_371.out
   have hnc60 := NB371_370.out
   obtain ⟨hcz61_0, hcz61_1, hcz61_2, hcz61_3⟩ := ce4 BK370
   obtain ⟨hfz61_0, hfz61_1, hfz61_2, hfz61_3⟩ := fr4 BK370
   go_wp2_with (first | ((with_reducible refine gate_callee (f := 8) rfl ?_); refine goesL_ (some 22) rfl rfl Try.func8 (by kernel_rfl) rfl #[.agg #[.int .i64 a1_0, .int .i64 a1_1, .slice A1_2 l1_2.length c1_2, .slice A1_3 l1_3.length c1_3]] rfl (by (try simp only [List.map_toArray, List.map_cons, List.map_nil]); first | done | rfl | (simp only [List.length_drop, List.length_take]; rfl)) ?_; (with_reducible refine (sandglassref10_Few.calls a1_0 a1_1 _ _ l1_2 _ _ l1_3 false _ ?side1 ?side2 ?side3 ?side4 A9.out).mono ?_); (case side1 => repeat (first | exact (Kd.C_below HR1_2.out HB.out) | (with_reducible refine Kd.C_alloc ?_ _) | (with_reducible refine Kd.C_drewN ?_ _) | (with_reducible refine Kd.C_drew ?_))); (case side2 => exact HC1_2.out); (case side3 => repeat (first | exact (Kd.C_below HR1_3.out HB.out) | (with_reducible refine Kd.C_alloc ?_ _) | (with_reducible refine Kd.C_drewN ?_ _) | (with_reducible refine Kd.C_drew ?_))); (case side4 => exact HC1_3.out); rintro e w62 ⟨rfl, hb⟩; refine ⟨_, rfl, ?_⟩; replace BK369 := Aside0.mk (blk_below (bo BK369) hb); replace BK370 := Aside0.mk (blk_below (bo BK370) hb); replace BK371 := Aside0.mk (blk_below (bo BK371) hb); replace HB := Aside0.mk (below_step (bl HB) hb); (try clear hb); (try clear hb2); (try clear hk); (try clear hi)))
   go_meet
   case rel => exact ⟨_, (true), (by first | (with_reducible rfl) | rfl | (simp; done) | (simp [*]; done)), H', ⟨by first | omega | exact Nat.le_refl _⟩, ⟨bo BK369⟩, ⟨bo BK370⟩, ⟨bo BK371⟩, ⟨bl HB⟩⟩
 case rest =>
  as_aux_lemma =>
  clear HC4
  try clear c10; try clear c12; try clear c13; try clear c13b0; try clear c22; try clear c22b0; try clear c31; try clear c31b0; try clear hcz16_0; try clear hcz16_1; try clear hcz16_2; try clear hcz16_3; try clear hcz19_0; try clear hcz19_1; try clear hcz19_2; try clear hcz19_3; try clear hcz20_0; try clear hcz20_1; try clear hcz20_2; try clear hcz20_3; try clear hcz25_0; try clear hcz25_1; try clear hcz25_2; try clear hcz25_3; try clear hcz28_0; try clear hcz28_1; try clear hcz28_2; try clear hcz28_3; try clear hcz29_0; try clear hcz29_1; try clear hcz29_2; try clear hcz29_3; try clear hcz34_0; try clear hcz34_1; try clear hcz34_2; try clear hcz34_3; try clear hcz37_0; try clear hcz37_1; try clear hcz37_2; try clear hcz37_3; try clear hcz38_0; try clear hcz38_1; try clear hcz38_2; try clear hcz38_3; try clear hcz40_0; try clear hcz40_1; try clear hcz40_2; try clear hcz40_3; try clear hcz44_0; try clear hcz44_1; try clear hcz44_2; try clear hcz44_3; try clear hcz47_0; try clear hcz47_1; try clear hcz47_2; try clear hcz47_3; try clear hcz48_0; try clear hcz48_1; try clear hcz48_2; try clear hcz48_3; try clear hcz50_0; try clear hcz50_1; try clear hcz50_2; try clear hcz50_3; try clear hcz53_0; try clear hcz53_1; try clear hcz53_2; try clear hcz53_3; try clear hcz56_0; try clear hcz56_1; try clear hcz56_2; try clear hcz56_3; try clear hcz57_0; try clear hcz57_1; try clear hcz57_2; try clear hcz57_3; try clear hcz61_0; try clear hcz61_1; try clear hcz61_2; try clear hcz61_3; try clear hfz16_0; try clear hfz16_1; try clear hfz16_2; try clear hfz16_3; try clear hfz19_0; try clear hfz19_1; try clear hfz19_2; try clear hfz19_3; try clear hfz20_0; try clear hfz20_1; try clear hfz20_2; try clear hfz20_3; try clear hfz25_0; try clear hfz25_1; try clear hfz25_2; try clear hfz25_3; try clear hfz28_0; try clear hfz28_1; try clear hfz28_2; try clear hfz28_3; try clear hfz29_0; try clear hfz29_1; try clear hfz29_2; try clear hfz29_3; try clear hfz34_0; try clear hfz34_1; try clear hfz34_2; try clear hfz34_3; try clear hfz37_0; try clear hfz37_1; try clear hfz37_2; try clear hfz37_3; try clear hfz38_0; try clear hfz38_1; try clear hfz38_2; try clear hfz38_3; try clear hfz40_0; try clear hfz40_1; try clear hfz40_2; try clear hfz40_3; try clear hfz44_0; try clear hfz44_1; try clear hfz44_2; try clear hfz44_3; try clear hfz47_0; try clear hfz47_1; try clear hfz47_2; try clear hfz47_3; try clear hfz48_0; try clear hfz48_1; try clear hfz48_2; try clear hfz48_3; try clear hfz50_0; try clear hfz50_1; try clear hfz50_2; try clear hfz50_3; try clear hfz53_0; try clear hfz53_1; try clear hfz53_2; try clear hfz53_3; try clear hfz56_0; try clear hfz56_1; try clear hfz56_2; try clear hfz56_3; try clear hfz57_0; try clear hfz57_1; try clear hfz57_2; try clear hfz57_3; try clear hfz61_0; try clear hfz61_1; try clear hfz61_2; try clear hfz61_3
  obtain ⟨kq, x47_3, rfl, HA, HJ3, BK369, BK370, BK371, HB⟩ := hcut
  cases kq with
  | zero => exact absurd HA.out (by simp [sandglasslaw13_ExactMay.j0])
  | succ kj3 =>
   have H := HA.out
   clear HA
   simp only [sandglasslaw13_ExactMay.j0] at H
   by_cases c63 : x47_3 = true
   ·subst c63
    rw [if_pos rfl] at H
    replace H := Option.bind_eq_some_iff.mp H
    obtain ⟨t375, A640, H⟩ := H
    have A64 := Aside0.mk A640
    clear A640
    obtain rfl := Option.some.inj H
    go_wp2_with (first | ((with_reducible refine gate_callee (f := 9) rfl ?_); refine goesL_ (some 48) rfl rfl Try.func9 (by kernel_rfl) rfl #[] rfl (by (try simp only [List.map_toArray, List.map_cons, List.map_nil]); first | done | rfl | (simp only [List.length_drop, List.length_take]; rfl)) ?_; (with_reducible refine (sandglasslaw13_live.calls kj3  t375 _ A64.out).mono ?_); rintro e w65 ⟨rfl, hb⟩; refine ⟨_, rfl, ?_⟩; replace BK369 := Aside0.mk (blk_below (bo BK369) hb); replace BK370 := Aside0.mk (blk_below (bo BK370) hb); replace BK371 := Aside0.mk (blk_below (bo BK371) hb); replace HB := Aside0.mk (below_step (bl HB) hb); (try clear hb); (try clear hb2); (try clear hk); (try clear hi)))
    go_ret
    exact ⟨by first | (with_reducible rfl) | rfl | (simp [errW_none, errW_some] <;> rfl) | (simp [*, errW_none, errW_some] <;> rfl), bl HB⟩
   ·replace c63 := Bool.eq_false_iff.mpr c63
    subst c63
    rw [if_neg (show ¬ (false = true) by decide)] at H
    replace H := Option.bind_eq_some_iff.mp H
    obtain ⟨⟨t376, t377, t378, t381, t384, t385, t386, t387⟩, A660, H⟩ := H
    have A66 := Aside0.mk A660
    clear A660
    have HC67 := Aside0.mk H
    clear H
    have hnb68 := NB369_370.out
    have hnc68 := NB370_369.out
    have hnb69 := NB369_371.out
    have hnc69 := NB371_369.out
    obtain ⟨hcz70_0, hcz70_1, hcz70_2, hcz70_3⟩ := ce4 BK369
    obtain ⟨hfz70_0, hfz70_1, hfz70_2, hfz70_3⟩ := fr4 BK369
    have hnb71 := NB370_371.out
    have hnc71 := NB371_370.out
    obtain ⟨hcz72_0, hcz72_1, hcz72_2, hcz72_3⟩ := ce4 BK370
    obtain ⟨hfz72_0, hfz72_1, hfz72_2, hfz72_3⟩ := fr4 BK370
    go_upto_region 5 with (first | ((with_reducible refine gate_callee (f := 10) rfl ?_); refine goesL_ (some 54) rfl rfl Try.func10 (by kernel_rfl) rfl #[.agg #[.int .i64 a0_0, .int .i64 a0_1, .int .i64 a0_2, .int .i64 a0_3], .agg #[.int .i64 a1_0, .int .i64 a1_1, .slice A1_2 l1_2.length c1_2, .slice A1_3 l1_3.length c1_3], .int .i64 a2_0, .int .i64 a2_1] rfl (by (try simp only [List.map_toArray, List.map_cons, List.map_nil]); first | done | rfl | (simp only [List.length_drop, List.length_take]; rfl)) ?_; (with_reducible refine (exact_Ask.calls kj3 a0_0 a0_1 a0_2 a0_3 a1_0 a1_1 (fun k_ => k_ < w.heap.size) _ _ l1_2 (fun k_ => k_ < w.heap.size) _ _ l1_3 a2_0 a2_1 t376 t377 t378 t381 t384 t385 t386 t387 _ ?side1 ?side2 A66.out).mono ?_); (case side1 => exact Kd.V_mk HC1_2.out (Kd.F_below (Kd.C_F (Kd.heap_int .i64) HR1_2.out) (bl HB))); (case side2 => exact Kd.V_mk HC1_3.out (Kd.F_below (Kd.C_F k50_heap HR1_3.out) (bl HB))); rintro e w73 ⟨v379, v382, rfl, ho0, ho1, hb⟩; refine ⟨_, rfl, ?_⟩; have HO380 := Aside0.mk (Kd.V_lower (Kd.V_mono (ok' := fun k_ => k_ ≠ gb369 ∧ k_ ≠ gb370 ∧ k_ ≠ gb371) ho0 (fun k_ hk_ => ⟨Or.elim hk_ (fun hs_ => Or.elim hs_ (fun hs_ => fun e_ => Nat.not_le.2 hs_ (by rw [e_]; exact GW369.out)) (fun hs_ => fun e_ => Nat.not_le.2 hs_ (by rw [e_]; exact GW369.out))) (fun hn_ => (Kd.freshB (bo BK369) k_ hn_)), Or.elim hk_ (fun hs_ => Or.elim hs_ (fun hs_ => fun e_ => Nat.not_le.2 hs_ (by rw [e_]; exact GW370.out)) (fun hs_ => fun e_ => Nat.not_le.2 hs_ (by rw [e_]; exact GW370.out))) (fun hn_ => (Kd.freshB (bo BK370) k_ hn_)), Or.elim hk_ (fun hs_ => Or.elim hs_ (fun hs_ => fun e_ => Nat.not_le.2 hs_ (by rw [e_]; exact GW371.out)) (fun hs_ => fun e_ => Nat.not_le.2 hs_ (by rw [e_]; exact GW371.out))) (fun hn_ => (Kd.freshB (bo BK371) k_ hn_))⟩)) (below_size (bl HB))); have HO383 := Aside0.mk (Kd.V_lower (Kd.V_mono (ok' := fun k_ => k_ ≠ gb369 ∧ k_ ≠ gb370 ∧ k_ ≠ gb371) ho1 (fun k_ hk_ => ⟨Or.elim hk_ (fun hs_ => Or.elim hs_ (fun hs_ => fun e_ => Nat.not_le.2 hs_ (by rw [e_]; exact GW369.out)) (fun hs_ => fun e_ => Nat.not_le.2 hs_ (by rw [e_]; exact GW369.out))) (fun hn_ => (Kd.freshB (bo BK369) k_ hn_)), Or.elim hk_ (fun hs_ => Or.elim hs_ (fun hs_ => fun e_ => Nat.not_le.2 hs_ (by rw [e_]; exact GW370.out)) (fun hs_ => fun e_ => Nat.not_le.2 hs_ (by rw [e_]; exact GW370.out))) (fun hn_ => (Kd.freshB (bo BK370) k_ hn_)), Or.elim hk_ (fun hs_ => Or.elim hs_ (fun hs_ => fun e_ => Nat.not_le.2 hs_ (by rw [e_]; exact GW371.out)) (fun hs_ => fun e_ => Nat.not_le.2 hs_ (by rw [e_]; exact GW371.out))) (fun hn_ => (Kd.freshB (bo BK371) k_ hn_))⟩)) (below_size (bl HB))); replace BK369 := Aside0.mk (blk_below (bo BK369) hb); replace BK370 := Aside0.mk (blk_below (bo BK370) hb); replace BK371 := Aside0.mk (blk_below (bo BK371) hb); replace HB := Aside0.mk (below_step (bl HB) hb); (try clear hb); (try clear hb2); (try clear hk); (try clear hi); (try clear ho0); (try clear ho1)) | ((with_reducible refine gate_dst (N := 9) rfl ?_); (try (refine gate_guard (by rfl) ?_; dsimp only)); refine box_event ?hg (N := 9) ?hd (cs := #[.int .i64 0, .int .i64 0, .slice none 0 0, .slice none 0 0]) (t := 27) ?hr ?_; (case hd => rfl); (case hg => rfl); (case hr => first | (go_simp; done) | (go_simp; rfl)); intro gb388 hg w74 hbox hb; have BK388 := Aside0.mk (hbox); have GW388 := Aside0.mk ((by rw [hg]; exact (below_size (bl HB)) : w.heap.size ≤ gb388)); have GE388 := Aside0.mk ((by rw [hg]; exact (below_size (bl HB)) : w.heap.size ≤ gb388)); have NB369_388 := nb BK369 hg; have NB388_369 := bn BK369 hg; have NB370_388 := nb BK370 hg; have NB388_370 := bn BK370 hg; have NB371_388 := nb BK371 hg; have NB388_371 := bn BK371 hg; replace HO380 := ve HO380 hg hb; replace HO383 := ve HO383 hg hb; replace BK369 := Aside0.mk (blk_below (bo BK369) hb); replace BK370 := Aside0.mk (blk_below (bo BK370) hb); replace BK371 := Aside0.mk (blk_below (bo BK371) hb); replace HB := Aside0.mk (below_step (bl HB) hb); clear hb hbox hg) | ((with_reducible refine gate_dst (N := 10) rfl ?_); (try (refine gate_guard (by rfl) ?_; dsimp only)); refine box_event ?hg (N := 10) ?hd (cs := #[.bool false, .int .i64 0, .int .i64 0, .int .i64 0]) (t := 32) ?hr ?_; (case hd => rfl); (case hg => rfl); (case hr => first | (go_simp; done) | (go_simp; rfl)); intro gb389 hg w75 hbox hb; have BK389 := Aside0.mk (hbox); have GW389 := Aside0.mk ((by rw [hg]; exact (below_size (bl HB)) : w.heap.size ≤ gb389)); have GE389 := Aside0.mk ((by rw [hg]; exact (below_size (bl HB)) : w.heap.size ≤ gb389)); have NB369_389 := nb BK369 hg; have NB389_369 := bn BK369 hg; have NB370_389 := nb BK370 hg; have NB389_370 := bn BK370 hg; have NB371_389 := nb BK371 hg; have NB389_371 := bn BK371 hg; have NB388_389 := nb BK388 hg; have NB389_388 := bn BK388 hg; replace HO380 := ve HO380 hg hb; replace HO383 := ve HO383 hg hb; replace BK369 := Aside0.mk (blk_below (bo BK369) hb); replace BK370 := Aside0.mk (blk_below (bo BK370) hb); replace BK371 := Aside0.mk (blk_below (bo BK371) hb); replace BK388 := Aside0.mk (blk_below (bo BK388) hb); replace HB := Aside0.mk (below_step (bl HB) hb); clear hb hbox hg; have hnb76 := NB388_369.out; have hnc76 := NB369_388.out; have hnb77 := NB388_370.out; have hnc77 := NB370_388.out; have hnb78 := NB388_371.out; have hnc78 := NB371_388.out; have hnb79 := NB388_389.out; have hnc79 := NB389_388.out; obtain ⟨hcz80_0, hcz80_1, hcz80_2, hcz80_3⟩ := ce4 BK388; obtain ⟨hfz80_0, hfz80_1, hfz80_2, hfz80_3⟩ := fr4 BK388; obtain ⟨Ao81, co81, eo81⟩ := Kd.V_slice HO380.out; subst eo81; obtain ⟨Ao82, co82, eo82⟩ := Kd.V_slice HO383.out; subst eo82) | ((with_reducible refine gate_store (t := 27) (p := 9) rfl ?_); refine store_event (t := 27) (p := 9) (v := ?vo_w83) (w1 := ((((w75.setCell ⟨gb388, 0, none⟩ (.int .i64 t376)).setCell ⟨gb388, 1, none⟩ (.int .i64 t377)).setCell ⟨gb388, 2, none⟩ (.slice Ao81 t378.length co81)).setCell ⟨gb388, 3, none⟩ (.slice Ao82 t381.length co82))) ?hg ?ho ?hn ?hr ?_; (case ho => rfl); (case hg => rfl); (case hn => rfl); (case hr => first | (go_simp; done) | (go_simp; rfl)); intro w83 hw; replace HO380 : Aside0 (Kd.V (Kd.int .i64) 3 w83 w.heap.size (fun k_ => k_ ≠ gb369 ∧ k_ ≠ gb370 ∧ k_ ≠ gb371 ∧ k_ ≠ gb388 ∧ k_ ≠ gb389) (.slice Ao81 t378.length co81) t378) := ⟨(by rw [hw]; exact (by (with_reducible repeat (first | apply Kd.V_alloc | apply Kd.V_drewN | apply Kd.V_drew)); exact Kd.V_mono (Kd.V_far (p := ⟨gb388, 3, none⟩) (Kd.V_far (p := ⟨gb388, 2, none⟩) (Kd.V_far (p := ⟨gb388, 1, none⟩) (Kd.V_far (p := ⟨gb388, 0, none⟩) (Kd.V_mono HO380.out (fun k_ hk => (⟨hk, hk.1.2⟩ : _ ∧ k_ ≠ gb388))) (fun _ hk => hk.2) (.int .i64 t376)) (fun _ hk => hk.2) (.int .i64 t377)) (fun _ hk => hk.2) (.slice Ao81 t378.length co81)) (fun _ hk => hk.2) (.slice Ao82 t381.length co82)) (fun _ hk => ⟨hk.1.1.1.1, ⟨hk.1.1.1.2.1, ⟨hk.1.1.1.2.2, ⟨hk.1.1.2, hk.1.2⟩⟩⟩⟩)))⟩; replace HO383 : Aside0 (Kd.V k50 50 w83 w.heap.size (fun k_ => k_ ≠ gb369 ∧ k_ ≠ gb370 ∧ k_ ≠ gb371 ∧ k_ ≠ gb388 ∧ k_ ≠ gb389) (.slice Ao82 t381.length co82) t381) := ⟨(by rw [hw]; exact (by (with_reducible repeat (first | apply Kd.V_alloc | apply Kd.V_drewN | apply Kd.V_drew)); exact Kd.V_mono (Kd.V_far (p := ⟨gb388, 3, none⟩) (Kd.V_far (p := ⟨gb388, 2, none⟩) (Kd.V_far (p := ⟨gb388, 1, none⟩) (Kd.V_far (p := ⟨gb388, 0, none⟩) (Kd.V_mono HO383.out (fun k_ hk => (⟨hk, hk.1.2⟩ : _ ∧ k_ ≠ gb388))) (fun _ hk => hk.2) (.int .i64 t376)) (fun _ hk => hk.2) (.int .i64 t377)) (fun _ hk => hk.2) (.slice Ao81 t378.length co81)) (fun _ hk => hk.2) (.slice Ao82 t381.length co82)) (fun _ hk => ⟨hk.1.1.1.1, ⟨hk.1.1.1.2.1, ⟨hk.1.1.1.2.2, ⟨hk.1.1.2, hk.1.2⟩⟩⟩⟩)))⟩; replace BK369 : Aside0 (w83.heap[gb369]? = some (.cells #[.int .i64 a0_0, .int .i64 a0_1, .int .i64 a0_2, .int .i64 a0_3] 23 (0, 0))) := ⟨(by rw [hw]; exact (by (with_reducible repeat (first | refine blk_drewN ?_ _ | refine blk_drew ?_ | refine blk_alloc ?_ _)); refine blk_far ?_ NB369_388.out _; (with_reducible repeat (first | refine blk_drewN ?_ _ | refine blk_drew ?_ | refine blk_alloc ?_ _)); refine blk_far ?_ NB369_388.out _; (with_reducible repeat (first | refine blk_drewN ?_ _ | refine blk_drew ?_ | refine blk_alloc ?_ _)); refine blk_far ?_ NB369_388.out _; (with_reducible repeat (first | refine blk_drewN ?_ _ | refine blk_drew ?_ | refine blk_alloc ?_ _)); refine blk_far ?_ NB369_388.out _; (with_reducible repeat (first | refine blk_drewN ?_ _ | refine blk_drew ?_ | refine blk_alloc ?_ _)); exact BK369.out))⟩; replace BK370 : Aside0 (w83.heap[gb370]? = some (.cells #[.int .i64 a1_0, .int .i64 a1_1, .slice A1_2 l1_2.length c1_2, .slice A1_3 l1_3.length c1_3] 27 (0, 0))) := ⟨(by rw [hw]; exact (by (with_reducible repeat (first | refine blk_drewN ?_ _ | refine blk_drew ?_ | refine blk_alloc ?_ _)); refine blk_far ?_ NB370_388.out _; (with_reducible repeat (first | refine blk_drewN ?_ _ | refine blk_drew ?_ | refine blk_alloc ?_ _)); refine blk_far ?_ NB370_388.out _; (with_reducible repeat (first | refine blk_drewN ?_ _ | refine blk_drew ?_ | refine blk_alloc ?_ _)); refine blk_far ?_ NB370_388.out _; (with_reducible repeat (first | refine blk_drewN ?_ _ | refine blk_drew ?_ | refine blk_alloc ?_ _)); refine blk_far ?_ NB370_388.out _; (with_reducible repeat (first | refine blk_drewN ?_ _ | refine blk_drew ?_ | refine blk_alloc ?_ _)); exact BK370.out))⟩; replace BK371 : Aside0 (w83.heap[gb371]? = some (.cells #[.int .i64 a2_0, .int .i64 a2_1] 28 (0, 0))) := ⟨(by rw [hw]; exact (by (with_reducible repeat (first | refine blk_drewN ?_ _ | refine blk_drew ?_ | refine blk_alloc ?_ _)); refine blk_far ?_ NB371_388.out _; (with_reducible repeat (first | refine blk_drewN ?_ _ | refine blk_drew ?_ | refine blk_alloc ?_ _)); refine blk_far ?_ NB371_388.out _; (with_reducible repeat (first | refine blk_drewN ?_ _ | refine blk_drew ?_ | refine blk_alloc ?_ _)); refine blk_far ?_ NB371_388.out _; (with_reducible repeat (first | refine blk_drewN ?_ _ | refine blk_drew ?_ | refine blk_alloc ?_ _)); refine blk_far ?_ NB371_388.out _; (with_reducible repeat (first | refine blk_drewN ?_ _ | refine blk_drew ?_ | refine blk_alloc ?_ _)); exact BK371.out))⟩; replace BK388 : Aside0 (w83.heap[gb388]? = some (.cells #[.int .i64 t376, .int .i64 t377, .slice Ao81 t378.length co81, .slice Ao82 t381.length co82] 27 (0, 0))) := ⟨(by rw [hw]; exact (by (with_reducible repeat (first | refine blk_drewN ?_ _ | refine blk_drew ?_ | refine blk_alloc ?_ _)); refine blk_put (cs := #[.int .i64 t376, .int .i64 t377, .slice Ao81 t378.length co81, .slice none 0 0]) ?_ 3 _ rfl; (with_reducible repeat (first | refine blk_drewN ?_ _ | refine blk_drew ?_ | refine blk_alloc ?_ _)); refine blk_put (cs := #[.int .i64 t376, .int .i64 t377, .slice none 0 0, .slice none 0 0]) ?_ 2 _ rfl; (with_reducible repeat (first | refine blk_drewN ?_ _ | refine blk_drew ?_ | refine blk_alloc ?_ _)); refine blk_put (cs := #[.int .i64 t376, .int .i64 0, .slice none 0 0, .slice none 0 0]) ?_ 1 _ rfl; (with_reducible repeat (first | refine blk_drewN ?_ _ | refine blk_drew ?_ | refine blk_alloc ?_ _)); refine blk_put (cs := #[.int .i64 0, .int .i64 0, .slice none 0 0, .slice none 0 0]) ?_ 0 _ rfl; (with_reducible repeat (first | refine blk_drewN ?_ _ | refine blk_drew ?_ | refine blk_alloc ?_ _)); exact BK388.out))⟩; replace BK389 : Aside0 (w83.heap[gb389]? = some (.cells #[.bool false, .int .i64 0, .int .i64 0, .int .i64 0] 32 (0, 0))) := ⟨(by rw [hw]; exact (by (with_reducible repeat (first | refine blk_drewN ?_ _ | refine blk_drew ?_ | refine blk_alloc ?_ _)); refine blk_far ?_ NB389_388.out _; (with_reducible repeat (first | refine blk_drewN ?_ _ | refine blk_drew ?_ | refine blk_alloc ?_ _)); refine blk_far ?_ NB389_388.out _; (with_reducible repeat (first | refine blk_drewN ?_ _ | refine blk_drew ?_ | refine blk_alloc ?_ _)); refine blk_far ?_ NB389_388.out _; (with_reducible repeat (first | refine blk_drewN ?_ _ | refine blk_drew ?_ | refine blk_alloc ?_ _)); refine blk_far ?_ NB389_388.out _; (with_reducible repeat (first | refine blk_drewN ?_ _ | refine blk_drew ?_ | refine blk_alloc ?_ _)); exact BK389.out))⟩; replace HB : Aside0 (Below w.heap.size w w83) := ⟨(by rw [hw]; exact (bl HB))⟩; clear hw; have hnb84 := NB389_369.out; have hnc84 := NB369_389.out; have hnb85 := NB389_370.out; have hnc85 := NB370_389.out; have hnb86 := NB389_371.out; have hnc86 := NB371_389.out; obtain ⟨hcz87_0, hcz87_1, hcz87_2, hcz87_3⟩ := ce4 BK389; obtain ⟨hfz87_0, hfz87_1, hfz87_2, hfz87_3⟩ := fr4 BK389) | ((with_reducible refine gate_store (t := 32) (p := 10) rfl ?_); refine store_event (t := 32) (p := 10) (v := ?vo_w88) (w1 := ((((w83.setCell ⟨gb389, 0, none⟩ (.bool t384)).setCell ⟨gb389, 1, none⟩ (.int .i64 t385)).setCell ⟨gb389, 2, none⟩ (.int .i64 t386)).setCell ⟨gb389, 3, none⟩ (.int .i64 t387))) ?hg ?ho ?hn ?hr ?_; (case ho => rfl); (case hg => rfl); (case hn => rfl); (case hr => first | (go_simp; done) | (go_simp; rfl)); intro w88 hw; replace HO380 : Aside0 (Kd.V (Kd.int .i64) 3 w88 w.heap.size (fun k_ => k_ ≠ gb369 ∧ k_ ≠ gb370 ∧ k_ ≠ gb371 ∧ k_ ≠ gb388 ∧ k_ ≠ gb389) (.slice Ao81 t378.length co81) t378) := ⟨(by rw [hw]; exact (by (with_reducible repeat (first | apply Kd.V_alloc | apply Kd.V_drewN | apply Kd.V_drew)); exact Kd.V_mono (Kd.V_far (p := ⟨gb389, 3, none⟩) (Kd.V_far (p := ⟨gb389, 2, none⟩) (Kd.V_far (p := ⟨gb389, 1, none⟩) (Kd.V_far (p := ⟨gb389, 0, none⟩) (Kd.V_mono HO380.out (fun k_ hk => (⟨hk, hk.2.2.2.2⟩ : _ ∧ k_ ≠ gb389))) (fun _ hk => hk.2) (.bool t384)) (fun _ hk => hk.2) (.int .i64 t385)) (fun _ hk => hk.2) (.int .i64 t386)) (fun _ hk => hk.2) (.int .i64 t387)) (fun _ hk => ⟨hk.1.1, ⟨hk.1.2.1, ⟨hk.1.2.2.1, ⟨hk.1.2.2.2.1, hk.1.2.2.2.2⟩⟩⟩⟩)))⟩; replace HO383 : Aside0 (Kd.V k50 50 w88 w.heap.size (fun k_ => k_ ≠ gb369 ∧ k_ ≠ gb370 ∧ k_ ≠ gb371 ∧ k_ ≠ gb388 ∧ k_ ≠ gb389) (.slice Ao82 t381.length co82) t381) := ⟨(by rw [hw]; exact (by (with_reducible repeat (first | apply Kd.V_alloc | apply Kd.V_drewN | apply Kd.V_drew)); exact Kd.V_mono (Kd.V_far (p := ⟨gb389, 3, none⟩) (Kd.V_far (p := ⟨gb389, 2, none⟩) (Kd.V_far (p := ⟨gb389, 1, none⟩) (Kd.V_far (p := ⟨gb389, 0, none⟩) (Kd.V_mono HO383.out (fun k_ hk => (⟨hk, hk.2.2.2.2⟩ : _ ∧ k_ ≠ gb389))) (fun _ hk => hk.2) (.bool t384)) (fun _ hk => hk.2) (.int .i64 t385)) (fun _ hk => hk.2) (.int .i64 t386)) (fun _ hk => hk.2) (.int .i64 t387)) (fun _ hk => ⟨hk.1.1, ⟨hk.1.2.1, ⟨hk.1.2.2.1, ⟨hk.1.2.2.2.1, hk.1.2.2.2.2⟩⟩⟩⟩)))⟩; replace BK369 : Aside0 (w88.heap[gb369]? = some (.cells #[.int .i64 a0_0, .int .i64 a0_1, .int .i64 a0_2, .int .i64 a0_3] 23 (0, 0))) := ⟨(by rw [hw]; exact (by (with_reducible repeat (first | refine blk_drewN ?_ _ | refine blk_drew ?_ | refine blk_alloc ?_ _)); refine blk_far ?_ NB369_389.out _; (with_reducible repeat (first | refine blk_drewN ?_ _ | refine blk_drew ?_ | refine blk_alloc ?_ _)); refine blk_far ?_ NB369_389.out _; (with_reducible repeat (first | refine blk_drewN ?_ _ | refine blk_drew ?_ | refine blk_alloc ?_ _)); refine blk_far ?_ NB369_389.out _; (with_reducible repeat (first | refine blk_drewN ?_ _ | refine blk_drew ?_ | refine blk_alloc ?_ _)); refine blk_far ?_ NB369_389.out _; (with_reducible repeat (first | refine blk_drewN ?_ _ | refine blk_drew ?_ | refine blk_alloc ?_ _)); exact BK369.out))⟩; replace BK370 : Aside0 (w88.heap[gb370]? = some (.cells #[.int .i64 a1_0, .int .i64 a1_1, .slice A1_2 l1_2.length c1_2, .slice A1_3 l1_3.length c1_3] 27 (0, 0))) := ⟨(by rw [hw]; exact (by (with_reducible repeat (first | refine blk_drewN ?_ _ | refine blk_drew ?_ | refine blk_alloc ?_ _)); refine blk_far ?_ NB370_389.out _; (with_reducible repeat (first | refine blk_drewN ?_ _ | refine blk_drew ?_ | refine blk_alloc ?_ _)); refine blk_far ?_ NB370_389.out _; (with_reducible repeat (first | refine blk_drewN ?_ _ | refine blk_drew ?_ | refine blk_alloc ?_ _)); refine blk_far ?_ NB370_389.out _; (with_reducible repeat (first | refine blk_drewN ?_ _ | refine blk_drew ?_ | refine blk_alloc ?_ _)); refine blk_far ?_ NB370_389.out _; (with_reducible repeat (first | refine blk_drewN ?_ _ | refine blk_drew ?_ | refine blk_alloc ?_ _)); exact BK370.out))⟩; replace BK371 : Aside0 (w88.heap[gb371]? = some (.cells #[.int .i64 a2_0, .int .i64 a2_1] 28 (0, 0))) := ⟨(by rw [hw]; exact (by (with_reducible repeat (first | refine blk_drewN ?_ _ | refine blk_drew ?_ | refine blk_alloc ?_ _)); refine blk_far ?_ NB371_389.out _; (with_reducible repeat (first | refine blk_drewN ?_ _ | refine blk_drew ?_ | refine blk_alloc ?_ _)); refine blk_far ?_ NB371_389.out _; (with_reducible repeat (first | refine blk_drewN ?_ _ | refine blk_drew ?_ | refine blk_alloc ?_ _)); refine blk_far ?_ NB371_389.out _; (with_reducible repeat (first | refine blk_drewN ?_ _ | refine blk_drew ?_ | refine blk_alloc ?_ _)); refine blk_far ?_ NB371_389.out _; (with_reducible repeat (first | refine blk_drewN ?_ _ | refine blk_drew ?_ | refine blk_alloc ?_ _)); exact BK371.out))⟩; replace BK388 : Aside0 (w88.heap[gb388]? = some (.cells #[.int .i64 t376, .int .i64 t377, .slice Ao81 t378.length co81, .slice Ao82 t381.length co82] 27 (0, 0))) := ⟨(by rw [hw]; exact (by (with_reducible repeat (first | refine blk_drewN ?_ _ | refine blk_drew ?_ | refine blk_alloc ?_ _)); refine blk_far ?_ NB388_389.out _; (with_reducible repeat (first | refine blk_drewN ?_ _ | refine blk_drew ?_ | refine blk_alloc ?_ _)); refine blk_far ?_ NB388_389.out _; (with_reducible repeat (first | refine blk_drewN ?_ _ | refine blk_drew ?_ | refine blk_alloc ?_ _)); refine blk_far ?_ NB388_389.out _; (with_reducible repeat (first | refine blk_drewN ?_ _ | refine blk_drew ?_ | refine blk_alloc ?_ _)); refine blk_far ?_ NB388_389.out _; (with_reducible repeat (first | refine blk_drewN ?_ _ | refine blk_drew ?_ | refine blk_alloc ?_ _)); exact BK388.out))⟩; replace BK389 : Aside0 (w88.heap[gb389]? = some (.cells #[.bool t384, .int .i64 t385, .int .i64 t386, .int .i64 t387] 32 (0, 0))) := ⟨(by rw [hw]; exact (by (with_reducible repeat (first | refine blk_drewN ?_ _ | refine blk_drew ?_ | refine blk_alloc ?_ _)); refine blk_put (cs := #[.bool t384, .int .i64 t385, .int .i64 t386, .int .i64 0]) ?_ 3 _ rfl; (with_reducible repeat (first | refine blk_drewN ?_ _ | refine blk_drew ?_ | refine blk_alloc ?_ _)); refine blk_put (cs := #[.bool t384, .int .i64 t385, .int .i64 0, .int .i64 0]) ?_ 2 _ rfl; (with_reducible repeat (first | refine blk_drewN ?_ _ | refine blk_drew ?_ | refine blk_alloc ?_ _)); refine blk_put (cs := #[.bool t384, .int .i64 0, .int .i64 0, .int .i64 0]) ?_ 1 _ rfl; (with_reducible repeat (first | refine blk_drewN ?_ _ | refine blk_drew ?_ | refine blk_alloc ?_ _)); refine blk_put (cs := #[.bool false, .int .i64 0, .int .i64 0, .int .i64 0]) ?_ 0 _ rfl; (with_reducible repeat (first | refine blk_drewN ?_ _ | refine blk_drew ?_ | refine blk_alloc ?_ _)); exact BK389.out))⟩; replace HB : Aside0 (Below w.heap.size w w88) := ⟨(by rw [hw]; exact (bl HB))⟩; clear hw))
    (try simp only [Act.put, List.setIfInBounds_toArray, List.set_cons_zero, List.set_cons_succ])
    go_cut [87] (fun v87 wc => ∃ (kq : Nat) (x87_66 : Bool), v87 = .bool x87_66 ∧ Aside0 (sandglasslaw13_ExactMay.j1 kq a2_1 x87_66 a0_0 a0_1 a0_2 a0_3 t376 t377 t378 t381 t384 t385 t386 t387 = some r) ∧ Aside0 (kq ≤ kj3) ∧ Aside0 (Kd.V (Kd.int .i64) 3 wc w.heap.size (fun k_ => k_ ≠ gb369 ∧ k_ ≠ gb370 ∧ k_ ≠ gb371 ∧ k_ ≠ gb388 ∧ k_ ≠ gb389) (.slice Ao81 t378.length co81) t378) ∧ Aside0 (Kd.V k50 50 wc w.heap.size (fun k_ => k_ ≠ gb369 ∧ k_ ≠ gb370 ∧ k_ ≠ gb371 ∧ k_ ≠ gb388 ∧ k_ ≠ gb389) (.slice Ao82 t381.length co82) t381) ∧ Aside0 (wc.heap[gb369]? = some (.cells #[.int .i64 a0_0, .int .i64 a0_1, .int .i64 a0_2, .int .i64 a0_3] 23 (0, 0))) ∧ Aside0 (wc.heap[gb370]? = some (.cells #[.int .i64 a1_0, .int .i64 a1_1, (.slice A1_2 l1_2.length c1_2), (.slice A1_3 l1_3.length c1_3)] 27 (0, 0))) ∧ Aside0 (wc.heap[gb371]? = some (.cells #[.int .i64 a2_0, .int .i64 a2_1] 28 (0, 0))) ∧ Aside0 (wc.heap[gb388]? = some (.cells #[.int .i64 t376, .int .i64 t377, (.slice Ao81 t378.length co81), (.slice Ao82 t381.length co82)] 27 (0, 0))) ∧ Aside0 (wc.heap[gb389]? = some (.cells #[.bool t384, .int .i64 t385, .int .i64 t386, .int .i64 t387] 32 (0, 0))) ∧ Aside0 (Below w.heap.size w wc))
    case first =>
     as_aux_lemma =>
     have H := HC67.out
     clear HC67
     replace H := Option.bind_eq_some_iff.mp H
     obtain ⟨t390, A890, H⟩ := H
     have A89 := Aside0.mk A890
     clear A890
     by_cases c90 : t390 = true
     ·subst c90
      rw [if_pos rfl] at H
      obtain ⟨ji91, hji91⟩ : ∃ j_ : Int, (mx a2_0 a1_0) = j_ := ⟨_, rfl⟩
      replace H : (if t376 = (ji91) then ((exact_Total.f kj3 a0_0 a0_1 a0_2 a0_3 t376 t377 t378 t381 t376).bind fun t391 => (if t385 = (wrap64 (a0_1 - t391)) then (sandglasslaw13_ExactMay.j1 kj3 a2_1 (decide (t385 < 0)) a0_0 a0_1 a0_2 a0_3 t376 t377 t378 t381 t384 t385 t386 t387) else (sandglasslaw13_ExactMay.j1 kj3 a2_1 true a0_0 a0_1 a0_2 a0_3 t376 t377 t378 t381 t384 t385 t386 t387))) else (sandglasslaw13_ExactMay.j1 kj3 a2_1 true a0_0 a0_1 a0_2 a0_3 t376 t377 t378 t381 t384 t385 t386 t387)) = some r := by first | (rw [hji91] at H; exact H) | (simp only [hji91] at H ⊢; exact H)
      (try rw [hji91] at A89)
      have hji91_ : (if a2_0 < a1_0 then a1_0 else a2_0) = ji91 := hji91
      by_cases c92 : t376 = (ji91)
      ·rw [if_pos c92] at H
       have c92b0 : (t376 == (ji91)) = true := beq_iff_eq.mpr c92
       have c92b1 : (t376 != (ji91)) = false := bne_eq_false_iff_eq.mpr c92
       clear c92
       (first | rw [c92b0] | (simp only [i64_w, i32_w]; rw [c92b0]) | skip)
       replace H := Option.bind_eq_some_iff.mp H
       obtain ⟨t391, A930, H⟩ := H
       have A93 := Aside0.mk A930
       clear A930
       by_cases c94 : t385 = (wrap64 (a0_1 - t391))
       ·rw [if_pos c94] at H
        have c94b0 : (t385 == (wrap64 (a0_1 - t391))) = true := beq_iff_eq.mpr c94
        have c94b1 : (t385 != (wrap64 (a0_1 - t391))) = false := bne_eq_false_iff_eq.mpr c94
        clear c94
        have H' := Aside0.mk H
        clear H
        try go_wp2
        replace HO380 := Aside0.mk (Kd.V_drew HO380.out)
        replace HO383 := Aside0.mk (Kd.V_drew HO383.out)
        replace BK369 := Aside0.mk (blk_drew BK369.out)
        replace BK370 := Aside0.mk (blk_drew BK370.out)
        replace BK371 := Aside0.mk (blk_drew BK371.out)
        replace BK388 := Aside0.mk (blk_drew BK388.out)
        replace BK389 := Aside0.mk (blk_drew BK389.out)
        replace HB := Aside0.mk (below_drew1 HB.out)
        refine start_ (n := 31) (S := fun w' => w'.cell? ⟨gb369, 0, none⟩ = some (.int .i64 a0_0) ∧ w'.cell? ⟨gb369, 1, none⟩ = some (.int .i64 a0_1) ∧ w'.cell? ⟨gb369, 2, none⟩ = some (.int .i64 a0_2) ∧ w'.cell? ⟨gb369, 3, none⟩ = some (.int .i64 a0_3) ∧ w'.cell? ⟨gb388, 0, none⟩ = some (.int .i64 t376) ∧ w'.cell? ⟨gb388, 1, none⟩ = some (.int .i64 t377) ∧ w'.cell? ⟨gb388, 2, none⟩ = some (.slice Ao81 t378.length co81) ∧ w'.cell? ⟨gb388, 3, none⟩ = some (.slice Ao82 t381.length co82) ∧ w'.cell? ⟨gb370, 0, none⟩ = some (.int .i64 a1_0) ∧ w'.cell? ⟨gb370, 1, none⟩ = some (.int .i64 a1_1) ∧ w'.cell? ⟨gb370, 2, none⟩ = some (.slice A1_2 l1_2.length c1_2) ∧ w'.cell? ⟨gb370, 3, none⟩ = some (.slice A1_3 l1_3.length c1_3) ∧ w'.cell? ⟨gb389, 0, none⟩ = some (.bool t384) ∧ w'.cell? ⟨gb389, 1, none⟩ = some (.int .i64 t385) ∧ w'.cell? ⟨gb389, 2, none⟩ = some (.int .i64 t386) ∧ w'.cell? ⟨gb389, 3, none⟩ = some (.int .i64 t387)) (ds := []) #[false, false, false, false, false, false, false, false, false, false, false, false, false, false, false, false, false, false, false, false, false, false, false, false, false, false, false, false, false, false, false] (by kernel_rfl) rfl rfl ⟨(blk_cell BK369.out 0).trans rfl, (blk_cell BK369.out 1).trans rfl, (blk_cell BK369.out 2).trans rfl, (blk_cell BK369.out 3).trans rfl, (blk_cell BK388.out 0).trans rfl, (blk_cell BK388.out 1).trans rfl, (blk_cell BK388.out 2).trans rfl, (blk_cell BK388.out 3).trans rfl, (blk_cell BK370.out 0).trans rfl, (blk_cell BK370.out 1).trans rfl, (blk_cell BK370.out 2).trans rfl, (blk_cell BK370.out 3).trans rfl, (blk_cell BK389.out 0).trans rfl, (blk_cell BK389.out 1).trans rfl, (blk_cell BK389.out 2).trans rfl, (blk_cell BK389.out 3).trans rfl⟩ (fun hHeld => ?_); refine with_tabW sandglasslaw13_ExactMay.tab5 sandglasslaw13_ExactMay.bits5 (fun HT_ HW_ => ?_)
        generalize w88.drew = w95 at HO380 HO383 BK369 BK370 BK371 BK388 BK389 HB hHeld ⊢
        refine takeA 0 57 HT_ HW_ hHeld ?_
        refine takeA 1 58 HT_ HW_ hHeld ?_
        refine one_ (i := 2) (N := some 59) #[true, true, true, false, false, false, false, false, false, false, false, false, false, false, false, false, false, false, false, false, false, false, false, false, false, false, false, false, false, false, false] rfl rfl (one_of HT_.out (by kernel_rfl)) (by decide) (fun K hK => ?_)
        refine goes_ Try.func13 (by kernel_rfl) rfl #[.agg #[.int .i64 a0_0, .int .i64 a0_1, .int .i64 a0_2, .int .i64 a0_3], .agg #[.int .i64 t376, .int .i64 t377, .slice Ao81 t378.length co81, .slice Ao82 t381.length co82]] (by rfl) rfl rfl (by (try simp only [List.map_toArray, List.map_cons, List.map_nil]); first | done | rfl | (simp only [List.length_drop, List.length_take]; rfl)) ?_
        with_reducible refine (exact_May.calls kj3 a0_0 a0_1 a0_2 a0_3 t376 t377 _ _ t378 _ _ t381 true _ ?side1 ?side2 ?side3 ?side4 A89.out).mono ?_
        (case side1 => repeat (first | exact (Kd.V_reads' HO380.out).2.2 | (with_reducible refine Kd.C_alloc ?_ _) | (with_reducible refine Kd.C_drewN ?_ _) | (with_reducible refine Kd.C_drew ?_)))
        (case side2 => exact (Kd.V_reads' HO380.out).2.1)
        (case side3 => repeat (first | exact (Kd.V_reads' HO383.out).2.2 | (with_reducible refine Kd.C_alloc ?_ _) | (with_reducible refine Kd.C_drewN ?_ _) | (with_reducible refine Kd.C_drew ?_)))
        (case side4 => exact (Kd.V_reads' HO383.out).2.1)
        rintro e w96 ⟨rfl, hb⟩
        refine ⟨_, rfl, ?_⟩
        replace HO380 := vb HO380 hb
        replace HO383 := vb HO383 hb
        replace BK369 := Aside0.mk (blk_below (bo BK369) hb)
        replace BK370 := Aside0.mk (blk_below (bo BK370) hb)
        replace BK371 := Aside0.mk (blk_below (bo BK371) hb)
        replace BK388 := Aside0.mk (blk_below (bo BK388) hb)
        replace BK389 := Aside0.mk (blk_below (bo BK389) hb)
        replace HB := Aside0.mk (below_step (bl HB) hb)
        (try clear hb)
        (try clear hb2)
        (try clear hk)
        (try clear hi)
        refine hK.out _ _ ⟨(blk_cell BK369.out 0).trans rfl, (blk_cell BK369.out 1).trans rfl, (blk_cell BK369.out 2).trans rfl, (blk_cell BK369.out 3).trans rfl, (blk_cell BK388.out 0).trans rfl, (blk_cell BK388.out 1).trans rfl, (blk_cell BK388.out 2).trans rfl, (blk_cell BK388.out 3).trans rfl, (blk_cell BK370.out 0).trans rfl, (blk_cell BK370.out 1).trans rfl, (blk_cell BK370.out 2).trans rfl, (blk_cell BK370.out 3).trans rfl, (blk_cell BK389.out 0).trans rfl, (blk_cell BK389.out 1).trans rfl, (blk_cell BK389.out 2).trans rfl, (blk_cell BK389.out 3).trans rfl⟩ (fun hHeld => ?_)
        clear hK K
        refine norm_ (a' := ?_) ?_ ?_
        rotate_left
        ·show Act.put _ (some 59) _ = _
         simp only [Act.put, List.setIfInBounds_toArray, List.set_cons_zero, List.set_cons_succ, i64_w, i32_w]
         rfl
        refine pureA 3 60 HT_ ?_
        refine pureA 4 61 HT_ ?_
        refine pureA 5 62 HT_ ?_
        refine pureA 7 64 HT_ ?_
        refine pureA 8 65 HT_ ?_
        refine takeA 6 63 HT_ HW_ hHeld ?_
        refine takeA 9 66 HT_ HW_ hHeld ?_
        refine pureA 10 67 HT_ ?_
        refine pureA 11 68 HT_ ?_
        refine pureA 12 69 HT_ ?_
        refine pureA 13 70 HT_ ?_
        refine pureA 14 71 HT_ ?_
        refine pureA 16 73 HT_ ?_
        refine pureA 20 77 HT_ ?_
        refine takeA 15 72 HT_ HW_ hHeld ?_
        refine takeA 17 74 HT_ HW_ hHeld ?_
        refine takeA 18 75 HT_ HW_ hHeld ?_
        refine takeA 19 76 HT_ HW_ hHeld ?_
        refine takeA 21 78 HT_ HW_ hHeld ?_
        refine one_ (i := 22) (N := some 79) #[true, true, true, true, true, true, true, true, true, true, true, true, true, true, true, true, true, true, true, true, true, true, true, false, false, false, false, false, false, false, false] rfl rfl (one_of HT_.out (by kernel_rfl)) (by decide) (fun K hK => ?_)
        refine goes_ Try.func15 (by kernel_rfl) rfl #[.agg #[.int .i64 a0_0, .int .i64 a0_1, .int .i64 a0_2, .int .i64 a0_3], .agg #[.int .i64 t376, .int .i64 t377, .slice Ao81 t378.length co81, .slice Ao82 t381.length co82], .int .i64 t376] (by rfl) rfl rfl (by (try simp only [List.map_toArray, List.map_cons, List.map_nil]); first | done | rfl | (simp only [List.length_drop, List.length_take]; rfl)) ?_
        with_reducible refine (exact_Total.calls kj3 a0_0 a0_1 a0_2 a0_3 t376 t377 _ _ t378 _ _ t381 t376 t391 _ ?side1 ?side2 ?side3 ?side4 A93.out).mono ?_
        (case side1 => repeat (first | exact (Kd.V_reads' HO380.out).2.2 | (with_reducible refine Kd.C_alloc ?_ _) | (with_reducible refine Kd.C_drewN ?_ _) | (with_reducible refine Kd.C_drew ?_)))
        (case side2 => exact (Kd.V_reads' HO380.out).2.1)
        (case side3 => repeat (first | exact (Kd.V_reads' HO383.out).2.2 | (with_reducible refine Kd.C_alloc ?_ _) | (with_reducible refine Kd.C_drewN ?_ _) | (with_reducible refine Kd.C_drew ?_)))
        (case side4 => exact (Kd.V_reads' HO383.out).2.1)
        rintro e w97 ⟨rfl, hb⟩
        refine ⟨_, rfl, ?_⟩
        replace HO380 := vb HO380 hb
        replace HO383 := vb HO383 hb
        replace BK369 := Aside0.mk (blk_below (bo BK369) hb)
        replace BK370 := Aside0.mk (blk_below (bo BK370) hb)
        replace BK371 := Aside0.mk (blk_below (bo BK371) hb)
        replace BK388 := Aside0.mk (blk_below (bo BK388) hb)
        replace BK389 := Aside0.mk (blk_below (bo BK389) hb)
        replace HB := Aside0.mk (below_step (bl HB) hb)
        (try clear hb)
        (try clear hb2)
        (try clear hk)
        (try clear hi)
        refine hK.out _ _ ⟨(blk_cell BK369.out 0).trans rfl, (blk_cell BK369.out 1).trans rfl, (blk_cell BK369.out 2).trans rfl, (blk_cell BK369.out 3).trans rfl, (blk_cell BK388.out 0).trans rfl, (blk_cell BK388.out 1).trans rfl, (blk_cell BK388.out 2).trans rfl, (blk_cell BK388.out 3).trans rfl, (blk_cell BK370.out 0).trans rfl, (blk_cell BK370.out 1).trans rfl, (blk_cell BK370.out 2).trans rfl, (blk_cell BK370.out 3).trans rfl, (blk_cell BK389.out 0).trans rfl, (blk_cell BK389.out 1).trans rfl, (blk_cell BK389.out 2).trans rfl, (blk_cell BK389.out 3).trans rfl⟩ (fun hHeld => ?_)
        clear hK K
        refine norm_ (a' := ?_) ?_ ?_
        rotate_left
        ·show Act.put _ (some 79) _ = _
         simp only [Act.put, List.setIfInBounds_toArray, List.set_cons_zero, List.set_cons_succ, i64_w, i32_w]
         rfl
        refine pureA 23 80 HT_ ?_
        refine pureA 24 81 HT_ ?_
        refine pureA 25 82 HT_ ?_
        refine pureA 26 83 HT_ ?_
        refine pureA 27 84 HT_ ?_
        refine takeA 28 85 HT_ HW_ hHeld ?_
        refine pureA 29 86 HT_ ?_
        refine pureA 30 87 HT_ ?_
        refine done_ (done_of HT_.out (by kernel_rfl)) ?_
        try go_wp2
        go_meet
        case rel => exact ⟨_, (decide (t385 < 0)), (by first | (with_reducible rfl) | rfl | (simp; done) | (simp [*]; done)), H', ⟨by have := HJ3.out; first | omega | exact Nat.le_refl _⟩, ⟨by (with_reducible repeat (first | apply Kd.V_alloc | apply Kd.V_drewN | apply Kd.V_drew)); exact HO380.out⟩, ⟨by (with_reducible repeat (first | apply Kd.V_alloc | apply Kd.V_drewN | apply Kd.V_drew)); exact HO383.out⟩, ⟨bo BK369⟩, ⟨bo BK370⟩, ⟨bo BK371⟩, ⟨bo BK388⟩, ⟨bo BK389⟩, ⟨bl HB⟩⟩
       ·rw [if_neg c94] at H
        have c94b0 : (t385 == (wrap64 (a0_1 - t391))) = false := beq_eq_false_iff_ne.mpr c94
        have c94b1 : (t385 != (wrap64 (a0_1 - t391))) = true := bne_iff_ne.mpr c94
        have H' := Aside0.mk H
        clear H
        try go_wp2
        replace HO380 := Aside0.mk (Kd.V_drew HO380.out)
        replace HO383 := Aside0.mk (Kd.V_drew HO383.out)
        replace BK369 := Aside0.mk (blk_drew BK369.out)
        replace BK370 := Aside0.mk (blk_drew BK370.out)
        replace BK371 := Aside0.mk (blk_drew BK371.out)
        replace BK388 := Aside0.mk (blk_drew BK388.out)
        replace BK389 := Aside0.mk (blk_drew BK389.out)
        replace HB := Aside0.mk (below_drew1 HB.out)
        refine start_ (n := 31) (S := fun w' => w'.cell? ⟨gb369, 0, none⟩ = some (.int .i64 a0_0) ∧ w'.cell? ⟨gb369, 1, none⟩ = some (.int .i64 a0_1) ∧ w'.cell? ⟨gb369, 2, none⟩ = some (.int .i64 a0_2) ∧ w'.cell? ⟨gb369, 3, none⟩ = some (.int .i64 a0_3) ∧ w'.cell? ⟨gb388, 0, none⟩ = some (.int .i64 t376) ∧ w'.cell? ⟨gb388, 1, none⟩ = some (.int .i64 t377) ∧ w'.cell? ⟨gb388, 2, none⟩ = some (.slice Ao81 t378.length co81) ∧ w'.cell? ⟨gb388, 3, none⟩ = some (.slice Ao82 t381.length co82) ∧ w'.cell? ⟨gb370, 0, none⟩ = some (.int .i64 a1_0) ∧ w'.cell? ⟨gb370, 1, none⟩ = some (.int .i64 a1_1) ∧ w'.cell? ⟨gb370, 2, none⟩ = some (.slice A1_2 l1_2.length c1_2) ∧ w'.cell? ⟨gb370, 3, none⟩ = some (.slice A1_3 l1_3.length c1_3) ∧ w'.cell? ⟨gb389, 0, none⟩ = some (.bool t384) ∧ w'.cell? ⟨gb389, 1, none⟩ = some (.int .i64 t385) ∧ w'.cell? ⟨gb389, 2, none⟩ = some (.int .i64 t386) ∧ w'.cell? ⟨gb389, 3, none⟩ = some (.int .i64 t387)) (ds := []) #[false, false, false, false, false, false, false, false, false, false, false, false, false, false, false, false, false, false, false, false, false, false, false, false, false, false, false, false, false, false, false] (by kernel_rfl) rfl rfl ⟨(blk_cell BK369.out 0).trans rfl, (blk_cell BK369.out 1).trans rfl, (blk_cell BK369.out 2).trans rfl, (blk_cell BK369.out 3).trans rfl, (blk_cell BK388.out 0).trans rfl, (blk_cell BK388.out 1).trans rfl, (blk_cell BK388.out 2).trans rfl, (blk_cell BK388.out 3).trans rfl, (blk_cell BK370.out 0).trans rfl, (blk_cell BK370.out 1).trans rfl, (blk_cell BK370.out 2).trans rfl, (blk_cell BK370.out 3).trans rfl, (blk_cell BK389.out 0).trans rfl, (blk_cell BK389.out 1).trans rfl, (blk_cell BK389.out 2).trans rfl, (blk_cell BK389.out 3).trans rfl⟩ (fun hHeld => ?_); refine with_tabW sandglasslaw13_ExactMay.tab5 sandglasslaw13_ExactMay.bits5 (fun HT_ HW_ => ?_)
        generalize w88.drew = w98 at HO380 HO383 BK369 BK370 BK371 BK388 BK389 HB hHeld ⊢
        refine takeA 0 57 HT_ HW_ hHeld ?_
        refine takeA 1 58 HT_ HW_ hHeld ?_
        refine one_ (i := 2) (N := some 59) #[true, true, true, false, false, false, false, false, false, false, false, false, false, false, false, false, false, false, false, false, false, false, false, false, false, false, false, false, false, false, false] rfl rfl (one_of HT_.out (by kernel_rfl)) (by decide) (fun K hK => ?_)
        refine goes_ Try.func13 (by kernel_rfl) rfl #[.agg #[.int .i64 a0_0, .int .i64 a0_1, .int .i64 a0_2, .int .i64 a0_3], .agg #[.int .i64 t376, .int .i64 t377, .slice Ao81 t378.length co81, .slice Ao82 t381.length co82]] (by rfl) rfl rfl (by (try simp only [List.map_toArray, List.map_cons, List.map_nil]); first | done | rfl | (simp only [List.length_drop, List.length_take]; rfl)) ?_
        with_reducible refine (exact_May.calls kj3 a0_0 a0_1 a0_2 a0_3 t376 t377 _ _ t378 _ _ t381 true _ ?side1 ?side2 ?side3 ?side4 A89.out).mono ?_
        (case side1 => repeat (first | exact (Kd.V_reads' HO380.out).2.2 | (with_reducible refine Kd.C_alloc ?_ _) | (with_reducible refine Kd.C_drewN ?_ _) | (with_reducible refine Kd.C_drew ?_)))
        (case side2 => exact (Kd.V_reads' HO380.out).2.1)
        (case side3 => repeat (first | exact (Kd.V_reads' HO383.out).2.2 | (with_reducible refine Kd.C_alloc ?_ _) | (with_reducible refine Kd.C_drewN ?_ _) | (with_reducible refine Kd.C_drew ?_)))
        (case side4 => exact (Kd.V_reads' HO383.out).2.1)
        rintro e w99 ⟨rfl, hb⟩
        refine ⟨_, rfl, ?_⟩
        replace HO380 := vb HO380 hb
        replace HO383 := vb HO383 hb
        replace BK369 := Aside0.mk (blk_below (bo BK369) hb)
        replace BK370 := Aside0.mk (blk_below (bo BK370) hb)
        replace BK371 := Aside0.mk (blk_below (bo BK371) hb)
        replace BK388 := Aside0.mk (blk_below (bo BK388) hb)
        replace BK389 := Aside0.mk (blk_below (bo BK389) hb)
        replace HB := Aside0.mk (below_step (bl HB) hb)
        (try clear hb)
        (try clear hb2)
        (try clear hk)
        (try clear hi)
        refine hK.out _ _ ⟨(blk_cell BK369.out 0).trans rfl, (blk_cell BK369.out 1).trans rfl, (blk_cell BK369.out 2).trans rfl, (blk_cell BK369.out 3).trans rfl, (blk_cell BK388.out 0).trans rfl, (blk_cell BK388.out 1).trans rfl, (blk_cell BK388.out 2).trans rfl, (blk_cell BK388.out 3).trans rfl, (blk_cell BK370.out 0).trans rfl, (blk_cell BK370.out 1).trans rfl, (blk_cell BK370.out 2).trans rfl, (blk_cell BK370.out 3).trans rfl, (blk_cell BK389.out 0).trans rfl, (blk_cell BK389.out 1).trans rfl, (blk_cell BK389.out 2).trans rfl, (blk_cell BK389.out 3).trans rfl⟩ (fun hHeld => ?_)
        clear hK K
        refine norm_ (a' := ?_) ?_ ?_
        rotate_left
        ·show Act.put _ (some 59) _ = _
         simp only [Act.put, List.setIfInBounds_toArray, List.set_cons_zero, List.set_cons_succ, i64_w, i32_w]
         rfl
        refine pureA 3 60 HT_ ?_
        refine pureA 4 61 HT_ ?_
        refine pureA 5 62 HT_ ?_
        refine pureA 7 64 HT_ ?_
        refine pureA 8 65 HT_ ?_
        refine takeA 6 63 HT_ HW_ hHeld ?_
        refine takeA 9 66 HT_ HW_ hHeld ?_
        refine pureA 10 67 HT_ ?_
        refine pureA 11 68 HT_ ?_
        refine pureA 12 69 HT_ ?_
        refine pureA 13 70 HT_ ?_
        refine pureA 14 71 HT_ ?_
        refine pureA 16 73 HT_ ?_
        refine pureA 20 77 HT_ ?_
        refine takeA 15 72 HT_ HW_ hHeld ?_
        refine takeA 17 74 HT_ HW_ hHeld ?_
        refine takeA 18 75 HT_ HW_ hHeld ?_
        refine takeA 19 76 HT_ HW_ hHeld ?_
        refine takeA 21 78 HT_ HW_ hHeld ?_
        refine one_ (i := 22) (N := some 79) #[true, true, true, true, true, true, true, true, true, true, true, true, true, true, true, true, true, true, true, true, true, true, true, false, false, false, false, false, false, false, false] rfl rfl (one_of HT_.out (by kernel_rfl)) (by decide) (fun K hK => ?_)
        refine goes_ Try.func15 (by kernel_rfl) rfl #[.agg #[.int .i64 a0_0, .int .i64 a0_1, .int .i64 a0_2, .int .i64 a0_3], .agg #[.int .i64 t376, .int .i64 t377, .slice Ao81 t378.length co81, .slice Ao82 t381.length co82], .int .i64 t376] (by rfl) rfl rfl (by (try simp only [List.map_toArray, List.map_cons, List.map_nil]); first | done | rfl | (simp only [List.length_drop, List.length_take]; rfl)) ?_
        with_reducible refine (exact_Total.calls kj3 a0_0 a0_1 a0_2 a0_3 t376 t377 _ _ t378 _ _ t381 t376 t391 _ ?side1 ?side2 ?side3 ?side4 A93.out).mono ?_
        (case side1 => repeat (first | exact (Kd.V_reads' HO380.out).2.2 | (with_reducible refine Kd.C_alloc ?_ _) | (with_reducible refine Kd.C_drewN ?_ _) | (with_reducible refine Kd.C_drew ?_)))
        (case side2 => exact (Kd.V_reads' HO380.out).2.1)
        (case side3 => repeat (first | exact (Kd.V_reads' HO383.out).2.2 | (with_reducible refine Kd.C_alloc ?_ _) | (with_reducible refine Kd.C_drewN ?_ _) | (with_reducible refine Kd.C_drew ?_)))
        (case side4 => exact (Kd.V_reads' HO383.out).2.1)
        rintro e w100 ⟨rfl, hb⟩
        refine ⟨_, rfl, ?_⟩
        replace HO380 := vb HO380 hb
        replace HO383 := vb HO383 hb
        replace BK369 := Aside0.mk (blk_below (bo BK369) hb)
        replace BK370 := Aside0.mk (blk_below (bo BK370) hb)
        replace BK371 := Aside0.mk (blk_below (bo BK371) hb)
        replace BK388 := Aside0.mk (blk_below (bo BK388) hb)
        replace BK389 := Aside0.mk (blk_below (bo BK389) hb)
        replace HB := Aside0.mk (below_step (bl HB) hb)
        (try clear hb)
        (try clear hb2)
        (try clear hk)
        (try clear hi)
        refine hK.out _ _ ⟨(blk_cell BK369.out 0).trans rfl, (blk_cell BK369.out 1).trans rfl, (blk_cell BK369.out 2).trans rfl, (blk_cell BK369.out 3).trans rfl, (blk_cell BK388.out 0).trans rfl, (blk_cell BK388.out 1).trans rfl, (blk_cell BK388.out 2).trans rfl, (blk_cell BK388.out 3).trans rfl, (blk_cell BK370.out 0).trans rfl, (blk_cell BK370.out 1).trans rfl, (blk_cell BK370.out 2).trans rfl, (blk_cell BK370.out 3).trans rfl, (blk_cell BK389.out 0).trans rfl, (blk_cell BK389.out 1).trans rfl, (blk_cell BK389.out 2).trans rfl, (blk_cell BK389.out 3).trans rfl⟩ (fun hHeld => ?_)
        clear hK K
        refine norm_ (a' := ?_) ?_ ?_
        rotate_left
        ·show Act.put _ (some 79) _ = _
         simp only [Act.put, List.setIfInBounds_toArray, List.set_cons_zero, List.set_cons_succ, i64_w, i32_w]
         rfl
        refine pureA 23 80 HT_ ?_
        refine pureA 24 81 HT_ ?_
        refine pureA 25 82 HT_ ?_
        refine pureA 26 83 HT_ ?_
        refine pure_ (i := 27) (N := some 84) (v := undef) (a' := ?_) #[true, true, true, true, true, true, true, true, true, true, true, true, true, true, true, true, true, true, true, true, true, true, true, true, true, true, true, true, false, false, false] rfl rfl (any_of HT_.out (by kernel_rfl)) (fun _ _ _ h => h) (Or.inr ⟨by rfl, rfl⟩) ?_ ?_
        rotate_left
        ·simp only [Act.put, List.setIfInBounds_toArray, List.set_cons_zero, List.set_cons_succ, i64_w, i32_w]
         rfl
        refine pure_ (i := 28) (N := some 85) (v := undef) (a' := ?_) #[true, true, true, true, true, true, true, true, true, true, true, true, true, true, true, true, true, true, true, true, true, true, true, true, true, true, true, true, true, false, false] rfl rfl (any_of HT_.out (by kernel_rfl)) (fun _ _ _ h => h) (Or.inr ⟨by rfl, rfl⟩) ?_ ?_
        rotate_left
        ·simp only [Act.put, List.setIfInBounds_toArray, List.set_cons_zero, List.set_cons_succ, i64_w, i32_w]
         rfl
        refine pure_ (i := 29) (N := some 86) (v := undef) (a' := ?_) #[true, true, true, true, true, true, true, true, true, true, true, true, true, true, true, true, true, true, true, true, true, true, true, true, true, true, true, true, true, true, false] rfl rfl (any_of HT_.out (by kernel_rfl)) (fun _ _ _ h => h) (Or.inr ⟨by rfl, rfl⟩) ?_ ?_
        rotate_left
        ·simp only [Act.put, List.setIfInBounds_toArray, List.set_cons_zero, List.set_cons_succ, i64_w, i32_w]
         rfl
        refine pureA 30 87 HT_ ?_
        refine done_ (done_of HT_.out (by kernel_rfl)) ?_
        try go_wp2
        go_meet
        case rel => exact ⟨_, (true), (by first | (with_reducible rfl) | rfl | (simp; done) | (simp [*]; done)), H', ⟨by have := HJ3.out; first | omega | exact Nat.le_refl _⟩, ⟨by (with_reducible repeat (first | apply Kd.V_alloc | apply Kd.V_drewN | apply Kd.V_drew)); exact HO380.out⟩, ⟨by (with_reducible repeat (first | apply Kd.V_alloc | apply Kd.V_drewN | apply Kd.V_drew)); exact HO383.out⟩, ⟨bo BK369⟩, ⟨bo BK370⟩, ⟨bo BK371⟩, ⟨bo BK388⟩, ⟨bo BK389⟩, ⟨bl HB⟩⟩
      ·rw [if_neg c92] at H
       have c92b0 : (t376 == (ji91)) = false := beq_eq_false_iff_ne.mpr c92
       have c92b1 : (t376 != (ji91)) = true := bne_iff_ne.mpr c92
       (first | rw [c92b0] | (simp only [i64_w, i32_w]; rw [c92b0]) | skip)
       have H' := Aside0.mk H
       clear H
       try go_wp2
       replace HO380 := Aside0.mk (Kd.V_drew HO380.out)
       replace HO383 := Aside0.mk (Kd.V_drew HO383.out)
       replace BK369 := Aside0.mk (blk_drew BK369.out)
       replace BK370 := Aside0.mk (blk_drew BK370.out)
       replace BK371 := Aside0.mk (blk_drew BK371.out)
       replace BK388 := Aside0.mk (blk_drew BK388.out)
       replace BK389 := Aside0.mk (blk_drew BK389.out)
       replace HB := Aside0.mk (below_drew1 HB.out)
       refine start_ (n := 31) (S := fun w' => w'.cell? ⟨gb369, 0, none⟩ = some (.int .i64 a0_0) ∧ w'.cell? ⟨gb369, 1, none⟩ = some (.int .i64 a0_1) ∧ w'.cell? ⟨gb369, 2, none⟩ = some (.int .i64 a0_2) ∧ w'.cell? ⟨gb369, 3, none⟩ = some (.int .i64 a0_3) ∧ w'.cell? ⟨gb388, 0, none⟩ = some (.int .i64 t376) ∧ w'.cell? ⟨gb388, 1, none⟩ = some (.int .i64 t377) ∧ w'.cell? ⟨gb388, 2, none⟩ = some (.slice Ao81 t378.length co81) ∧ w'.cell? ⟨gb388, 3, none⟩ = some (.slice Ao82 t381.length co82) ∧ w'.cell? ⟨gb370, 0, none⟩ = some (.int .i64 a1_0) ∧ w'.cell? ⟨gb370, 1, none⟩ = some (.int .i64 a1_1) ∧ w'.cell? ⟨gb370, 2, none⟩ = some (.slice A1_2 l1_2.length c1_2) ∧ w'.cell? ⟨gb370, 3, none⟩ = some (.slice A1_3 l1_3.length c1_3)) (ds := []) #[false, false, false, false, false, false, false, false, false, false, false, false, false, false, false, false, false, false, false, false, false, false, false, false, false, false, false, false, false, false, false] (by kernel_rfl) rfl rfl ⟨(blk_cell BK369.out 0).trans rfl, (blk_cell BK369.out 1).trans rfl, (blk_cell BK369.out 2).trans rfl, (blk_cell BK369.out 3).trans rfl, (blk_cell BK388.out 0).trans rfl, (blk_cell BK388.out 1).trans rfl, (blk_cell BK388.out 2).trans rfl, (blk_cell BK388.out 3).trans rfl, (blk_cell BK370.out 0).trans rfl, (blk_cell BK370.out 1).trans rfl, (blk_cell BK370.out 2).trans rfl, (blk_cell BK370.out 3).trans rfl⟩ (fun hHeld => ?_); refine with_tabW sandglasslaw13_ExactMay.tab5 sandglasslaw13_ExactMay.bits5 (fun HT_ HW_ => ?_)
       generalize w88.drew = w101 at HO380 HO383 BK369 BK370 BK371 BK388 BK389 HB hHeld ⊢
       refine takeA 0 57 HT_ HW_ hHeld ?_
       refine takeA 1 58 HT_ HW_ hHeld ?_
       refine one_ (i := 2) (N := some 59) #[true, true, true, false, false, false, false, false, false, false, false, false, false, false, false, false, false, false, false, false, false, false, false, false, false, false, false, false, false, false, false] rfl rfl (one_of HT_.out (by kernel_rfl)) (by decide) (fun K hK => ?_)
       refine goes_ Try.func13 (by kernel_rfl) rfl #[.agg #[.int .i64 a0_0, .int .i64 a0_1, .int .i64 a0_2, .int .i64 a0_3], .agg #[.int .i64 t376, .int .i64 t377, .slice Ao81 t378.length co81, .slice Ao82 t381.length co82]] (by rfl) rfl rfl (by (try simp only [List.map_toArray, List.map_cons, List.map_nil]); first | done | rfl | (simp only [List.length_drop, List.length_take]; rfl)) ?_
       with_reducible refine (exact_May.calls kj3 a0_0 a0_1 a0_2 a0_3 t376 t377 _ _ t378 _ _ t381 true _ ?side1 ?side2 ?side3 ?side4 A89.out).mono ?_
       (case side1 => repeat (first | exact (Kd.V_reads' HO380.out).2.2 | (with_reducible refine Kd.C_alloc ?_ _) | (with_reducible refine Kd.C_drewN ?_ _) | (with_reducible refine Kd.C_drew ?_)))
       (case side2 => exact (Kd.V_reads' HO380.out).2.1)
       (case side3 => repeat (first | exact (Kd.V_reads' HO383.out).2.2 | (with_reducible refine Kd.C_alloc ?_ _) | (with_reducible refine Kd.C_drewN ?_ _) | (with_reducible refine Kd.C_drew ?_)))
       (case side4 => exact (Kd.V_reads' HO383.out).2.1)
       rintro e w102 ⟨rfl, hb⟩
       refine ⟨_, rfl, ?_⟩
       replace HO380 := vb HO380 hb
       replace HO383 := vb HO383 hb
       replace BK369 := Aside0.mk (blk_below (bo BK369) hb)
       replace BK370 := Aside0.mk (blk_below (bo BK370) hb)
       replace BK371 := Aside0.mk (blk_below (bo BK371) hb)
       replace BK388 := Aside0.mk (blk_below (bo BK388) hb)
       replace BK389 := Aside0.mk (blk_below (bo BK389) hb)
       replace HB := Aside0.mk (below_step (bl HB) hb)
       (try clear hb)
       (try clear hb2)
       (try clear hk)
       (try clear hi)
       refine hK.out _ _ ⟨(blk_cell BK369.out 0).trans rfl, (blk_cell BK369.out 1).trans rfl, (blk_cell BK369.out 2).trans rfl, (blk_cell BK369.out 3).trans rfl, (blk_cell BK388.out 0).trans rfl, (blk_cell BK388.out 1).trans rfl, (blk_cell BK388.out 2).trans rfl, (blk_cell BK388.out 3).trans rfl, (blk_cell BK370.out 0).trans rfl, (blk_cell BK370.out 1).trans rfl, (blk_cell BK370.out 2).trans rfl, (blk_cell BK370.out 3).trans rfl⟩ (fun hHeld => ?_)
       clear hK K
       refine norm_ (a' := ?_) ?_ ?_
       rotate_left
       ·show Act.put _ (some 59) _ = _
        simp only [Act.put, List.setIfInBounds_toArray, List.set_cons_zero, List.set_cons_succ, i64_w, i32_w]
        rfl
       refine pureA 3 60 HT_ ?_
       refine pureA 4 61 HT_ ?_
       refine pureA 5 62 HT_ ?_
       refine pureA 7 64 HT_ ?_
       refine pureA 8 65 HT_ ?_
       refine takeA 6 63 HT_ HW_ hHeld ?_
       refine takeA 9 66 HT_ HW_ hHeld ?_
       refine pureA 10 67 HT_ ?_
       refine pureA 11 68 HT_ ?_
       refine pureA 12 69 HT_ ?_
       refine pureA 13 70 HT_ ?_
       refine pure_ (i := 14) (N := some 71) (v := undef) (a' := ?_) #[true, true, true, true, true, true, true, true, true, true, true, true, true, true, true, false, false, false, false, false, false, false, false, false, false, false, false, false, false, false, false] rfl rfl (any_of HT_.out (by kernel_rfl)) (fun _ _ _ h => h) (Or.inr ⟨by rfl, rfl⟩) ?_ ?_
       rotate_left
       ·simp only [Act.put, List.setIfInBounds_toArray, List.set_cons_zero, List.set_cons_succ, i64_w, i32_w]
        rfl
       refine pure_ (i := 15) (N := some 72) (v := undef) (a' := ?_) #[true, true, true, true, true, true, true, true, true, true, true, true, true, true, true, true, false, false, false, false, false, false, false, false, false, false, false, false, false, false, false] rfl rfl (any_of HT_.out (by kernel_rfl)) (fun _ _ _ h => h) (Or.inr ⟨by rfl, rfl⟩) ?_ ?_
       rotate_left
       ·simp only [Act.put, List.setIfInBounds_toArray, List.set_cons_zero, List.set_cons_succ, i64_w, i32_w]
        rfl
       refine pure_ (i := 16) (N := some 73) (v := undef) (a' := ?_) #[true, true, true, true, true, true, true, true, true, true, true, true, true, true, true, true, true, false, false, false, false, false, false, false, false, false, false, false, false, false, false] rfl rfl (any_of HT_.out (by kernel_rfl)) (fun _ _ _ h => h) (Or.inr ⟨by rfl, rfl⟩) ?_ ?_
       rotate_left
       ·simp only [Act.put, List.setIfInBounds_toArray, List.set_cons_zero, List.set_cons_succ, i64_w, i32_w]
        rfl
       refine pure_ (i := 17) (N := some 74) (v := undef) (a' := ?_) #[true, true, true, true, true, true, true, true, true, true, true, true, true, true, true, true, true, true, false, false, false, false, false, false, false, false, false, false, false, false, false] rfl rfl (any_of HT_.out (by kernel_rfl)) (fun _ _ _ h => h) (Or.inr ⟨by rfl, rfl⟩) ?_ ?_
       rotate_left
       ·simp only [Act.put, List.setIfInBounds_toArray, List.set_cons_zero, List.set_cons_succ, i64_w, i32_w]
        rfl
       refine pure_ (i := 18) (N := some 75) (v := undef) (a' := ?_) #[true, true, true, true, true, true, true, true, true, true, true, true, true, true, true, true, true, true, true, false, false, false, false, false, false, false, false, false, false, false, false] rfl rfl (any_of HT_.out (by kernel_rfl)) (fun _ _ _ h => h) (Or.inr ⟨by rfl, rfl⟩) ?_ ?_
       rotate_left
       ·simp only [Act.put, List.setIfInBounds_toArray, List.set_cons_zero, List.set_cons_succ, i64_w, i32_w]
        rfl
       refine pure_ (i := 19) (N := some 76) (v := undef) (a' := ?_) #[true, true, true, true, true, true, true, true, true, true, true, true, true, true, true, true, true, true, true, true, false, false, false, false, false, false, false, false, false, false, false] rfl rfl (any_of HT_.out (by kernel_rfl)) (fun _ _ _ h => h) (Or.inr ⟨by rfl, rfl⟩) ?_ ?_
       rotate_left
       ·simp only [Act.put, List.setIfInBounds_toArray, List.set_cons_zero, List.set_cons_succ, i64_w, i32_w]
        rfl
       refine pure_ (i := 20) (N := some 77) (v := undef) (a' := ?_) #[true, true, true, true, true, true, true, true, true, true, true, true, true, true, true, true, true, true, true, true, true, false, false, false, false, false, false, false, false, false, false] rfl rfl (any_of HT_.out (by kernel_rfl)) (fun _ _ _ h => h) (Or.inr ⟨by rfl, rfl⟩) ?_ ?_
       rotate_left
       ·simp only [Act.put, List.setIfInBounds_toArray, List.set_cons_zero, List.set_cons_succ, i64_w, i32_w]
        rfl
       refine pure_ (i := 21) (N := some 78) (v := undef) (a' := ?_) #[true, true, true, true, true, true, true, true, true, true, true, true, true, true, true, true, true, true, true, true, true, true, false, false, false, false, false, false, false, false, false] rfl rfl (any_of HT_.out (by kernel_rfl)) (fun _ _ _ h => h) (Or.inr ⟨by rfl, rfl⟩) ?_ ?_
       rotate_left
       ·simp only [Act.put, List.setIfInBounds_toArray, List.set_cons_zero, List.set_cons_succ, i64_w, i32_w]
        rfl
       refine pure_ (i := 22) (N := some 79) (v := undef) (a' := ?_) #[true, true, true, true, true, true, true, true, true, true, true, true, true, true, true, true, true, true, true, true, true, true, true, false, false, false, false, false, false, false, false] rfl rfl (any_of HT_.out (by kernel_rfl)) (fun _ _ _ h => h) (Or.inr ⟨by rfl, rfl⟩) ?_ ?_
       rotate_left
       ·simp only [Act.put, List.setIfInBounds_toArray, List.set_cons_zero, List.set_cons_succ, i64_w, i32_w]
        rfl
       refine pure_ (i := 23) (N := some 80) (v := undef) (a' := ?_) #[true, true, true, true, true, true, true, true, true, true, true, true, true, true, true, true, true, true, true, true, true, true, true, true, false, false, false, false, false, false, false] rfl rfl (any_of HT_.out (by kernel_rfl)) (fun _ _ _ h => h) (Or.inr ⟨by rfl, rfl⟩) ?_ ?_
       rotate_left
       ·simp only [Act.put, List.setIfInBounds_toArray, List.set_cons_zero, List.set_cons_succ, i64_w, i32_w]
        rfl
       refine pure_ (i := 24) (N := some 81) (v := undef) (a' := ?_) #[true, true, true, true, true, true, true, true, true, true, true, true, true, true, true, true, true, true, true, true, true, true, true, true, true, false, false, false, false, false, false] rfl rfl (any_of HT_.out (by kernel_rfl)) (fun _ _ _ h => h) (Or.inr ⟨by rfl, rfl⟩) ?_ ?_
       rotate_left
       ·simp only [Act.put, List.setIfInBounds_toArray, List.set_cons_zero, List.set_cons_succ, i64_w, i32_w]
        rfl
       refine pureA 25 82 HT_ ?_
       refine pureA 26 83 HT_ ?_
       refine pure_ (i := 27) (N := some 84) (v := undef) (a' := ?_) #[true, true, true, true, true, true, true, true, true, true, true, true, true, true, true, true, true, true, true, true, true, true, true, true, true, true, true, true, false, false, false] rfl rfl (any_of HT_.out (by kernel_rfl)) (fun _ _ _ h => h) (Or.inr ⟨by rfl, rfl⟩) ?_ ?_
       rotate_left
       ·simp only [Act.put, List.setIfInBounds_toArray, List.set_cons_zero, List.set_cons_succ, i64_w, i32_w]
        rfl
       refine pure_ (i := 28) (N := some 85) (v := undef) (a' := ?_) #[true, true, true, true, true, true, true, true, true, true, true, true, true, true, true, true, true, true, true, true, true, true, true, true, true, true, true, true, true, false, false] rfl rfl (any_of HT_.out (by kernel_rfl)) (fun _ _ _ h => h) (Or.inr ⟨by rfl, rfl⟩) ?_ ?_
       rotate_left
       ·simp only [Act.put, List.setIfInBounds_toArray, List.set_cons_zero, List.set_cons_succ, i64_w, i32_w]
        rfl
       refine pure_ (i := 29) (N := some 86) (v := undef) (a' := ?_) #[true, true, true, true, true, true, true, true, true, true, true, true, true, true, true, true, true, true, true, true, true, true, true, true, true, true, true, true, true, true, false] rfl rfl (any_of HT_.out (by kernel_rfl)) (fun _ _ _ h => h) (Or.inr ⟨by rfl, rfl⟩) ?_ ?_
       rotate_left
       ·simp only [Act.put, List.setIfInBounds_toArray, List.set_cons_zero, List.set_cons_succ, i64_w, i32_w]
        rfl
       refine pureA 30 87 HT_ ?_
       refine done_ (done_of HT_.out (by kernel_rfl)) ?_
       try go_wp2
       go_meet
       case rel => exact ⟨_, (true), (by first | (with_reducible rfl) | rfl | (simp; done) | (simp [*]; done)), H', ⟨by have := HJ3.out; first | omega | exact Nat.le_refl _⟩, ⟨by (with_reducible repeat (first | apply Kd.V_alloc | apply Kd.V_drewN | apply Kd.V_drew)); exact HO380.out⟩, ⟨by (with_reducible repeat (first | apply Kd.V_alloc | apply Kd.V_drewN | apply Kd.V_drew)); exact HO383.out⟩, ⟨bo BK369⟩, ⟨bo BK370⟩, ⟨bo BK371⟩, ⟨bo BK388⟩, ⟨bo BK389⟩, ⟨bl HB⟩⟩
     ·replace c90 := Bool.eq_false_iff.mpr c90
      subst c90
      rw [if_neg (show ¬ (false = true) by decide)] at H
      have H' := Aside0.mk H
      clear H
      try go_wp2
      replace HO380 := Aside0.mk (Kd.V_drew HO380.out)
      replace HO383 := Aside0.mk (Kd.V_drew HO383.out)
      replace BK369 := Aside0.mk (blk_drew BK369.out)
      replace BK370 := Aside0.mk (blk_drew BK370.out)
      replace BK371 := Aside0.mk (blk_drew BK371.out)
      replace BK388 := Aside0.mk (blk_drew BK388.out)
      replace BK389 := Aside0.mk (blk_drew BK389.out)
      replace HB := Aside0.mk (below_drew1 HB.out)
      refine start_ (n := 31) (S := fun w' => w'.cell? ⟨gb369, 0, none⟩ = some (.int .i64 a0_0) ∧ w'.cell? ⟨gb369, 1, none⟩ = some (.int .i64 a0_1) ∧ w'.cell? ⟨gb369, 2, none⟩ = some (.int .i64 a0_2) ∧ w'.cell? ⟨gb369, 3, none⟩ = some (.int .i64 a0_3) ∧ w'.cell? ⟨gb388, 0, none⟩ = some (.int .i64 t376) ∧ w'.cell? ⟨gb388, 1, none⟩ = some (.int .i64 t377) ∧ w'.cell? ⟨gb388, 2, none⟩ = some (.slice Ao81 t378.length co81) ∧ w'.cell? ⟨gb388, 3, none⟩ = some (.slice Ao82 t381.length co82)) (ds := []) #[false, false, false, false, false, false, false, false, false, false, false, false, false, false, false, false, false, false, false, false, false, false, false, false, false, false, false, false, false, false, false] (by kernel_rfl) rfl rfl ⟨(blk_cell BK369.out 0).trans rfl, (blk_cell BK369.out 1).trans rfl, (blk_cell BK369.out 2).trans rfl, (blk_cell BK369.out 3).trans rfl, (blk_cell BK388.out 0).trans rfl, (blk_cell BK388.out 1).trans rfl, (blk_cell BK388.out 2).trans rfl, (blk_cell BK388.out 3).trans rfl⟩ (fun hHeld => ?_); refine with_tabW sandglasslaw13_ExactMay.tab5 sandglasslaw13_ExactMay.bits5 (fun HT_ HW_ => ?_)
      generalize w88.drew = w103 at HO380 HO383 BK369 BK370 BK371 BK388 BK389 HB hHeld ⊢
      refine takeA 0 57 HT_ HW_ hHeld ?_
      refine takeA 1 58 HT_ HW_ hHeld ?_
      refine one_ (i := 2) (N := some 59) #[true, true, true, false, false, false, false, false, false, false, false, false, false, false, false, false, false, false, false, false, false, false, false, false, false, false, false, false, false, false, false] rfl rfl (one_of HT_.out (by kernel_rfl)) (by decide) (fun K hK => ?_)
      refine goes_ Try.func13 (by kernel_rfl) rfl #[.agg #[.int .i64 a0_0, .int .i64 a0_1, .int .i64 a0_2, .int .i64 a0_3], .agg #[.int .i64 t376, .int .i64 t377, .slice Ao81 t378.length co81, .slice Ao82 t381.length co82]] (by rfl) rfl rfl (by (try simp only [List.map_toArray, List.map_cons, List.map_nil]); first | done | rfl | (simp only [List.length_drop, List.length_take]; rfl)) ?_
      with_reducible refine (exact_May.calls kj3 a0_0 a0_1 a0_2 a0_3 t376 t377 _ _ t378 _ _ t381 false _ ?side1 ?side2 ?side3 ?side4 A89.out).mono ?_
      (case side1 => repeat (first | exact (Kd.V_reads' HO380.out).2.2 | (with_reducible refine Kd.C_alloc ?_ _) | (with_reducible refine Kd.C_drewN ?_ _) | (with_reducible refine Kd.C_drew ?_)))
      (case side2 => exact (Kd.V_reads' HO380.out).2.1)
      (case side3 => repeat (first | exact (Kd.V_reads' HO383.out).2.2 | (with_reducible refine Kd.C_alloc ?_ _) | (with_reducible refine Kd.C_drewN ?_ _) | (with_reducible refine Kd.C_drew ?_)))
      (case side4 => exact (Kd.V_reads' HO383.out).2.1)
      rintro e w104 ⟨rfl, hb⟩
      refine ⟨_, rfl, ?_⟩
      replace HO380 := vb HO380 hb
      replace HO383 := vb HO383 hb
      replace BK369 := Aside0.mk (blk_below (bo BK369) hb)
      replace BK370 := Aside0.mk (blk_below (bo BK370) hb)
      replace BK371 := Aside0.mk (blk_below (bo BK371) hb)
      replace BK388 := Aside0.mk (blk_below (bo BK388) hb)
      replace BK389 := Aside0.mk (blk_below (bo BK389) hb)
      replace HB := Aside0.mk (below_step (bl HB) hb)
      (try clear hb)
      (try clear hb2)
      (try clear hk)
      (try clear hi)
      refine hK.out _ _ ⟨(blk_cell BK369.out 0).trans rfl, (blk_cell BK369.out 1).trans rfl, (blk_cell BK369.out 2).trans rfl, (blk_cell BK369.out 3).trans rfl, (blk_cell BK388.out 0).trans rfl, (blk_cell BK388.out 1).trans rfl, (blk_cell BK388.out 2).trans rfl, (blk_cell BK388.out 3).trans rfl⟩ (fun hHeld => ?_)
      clear hK K
      refine norm_ (a' := ?_) ?_ ?_
      rotate_left
      ·show Act.put _ (some 59) _ = _
       simp only [Act.put, List.setIfInBounds_toArray, List.set_cons_zero, List.set_cons_succ, i64_w, i32_w]
       rfl
      refine pureA 3 60 HT_ ?_
      refine pureA 4 61 HT_ ?_
      refine pure_ (i := 5) (N := some 62) (v := undef) (a' := ?_) #[true, true, true, true, true, true, false, false, false, false, false, false, false, false, false, false, false, false, false, false, false, false, false, false, false, false, false, false, false, false, false] rfl rfl (any_of HT_.out (by kernel_rfl)) (fun _ _ _ h => h) (Or.inr ⟨by rfl, rfl⟩) ?_ ?_
      rotate_left
      ·simp only [Act.put, List.setIfInBounds_toArray, List.set_cons_zero, List.set_cons_succ, i64_w, i32_w]
       rfl
      refine pure_ (i := 6) (N := some 63) (v := undef) (a' := ?_) #[true, true, true, true, true, true, true, false, false, false, false, false, false, false, false, false, false, false, false, false, false, false, false, false, false, false, false, false, false, false, false] rfl rfl (any_of HT_.out (by kernel_rfl)) (fun _ _ _ h => h) (Or.inr ⟨by rfl, rfl⟩) ?_ ?_
      rotate_left
      ·simp only [Act.put, List.setIfInBounds_toArray, List.set_cons_zero, List.set_cons_succ, i64_w, i32_w]
       rfl
      refine pure_ (i := 7) (N := some 64) (v := undef) (a' := ?_) #[true, true, true, true, true, true, true, true, false, false, false, false, false, false, false, false, false, false, false, false, false, false, false, false, false, false, false, false, false, false, false] rfl rfl (any_of HT_.out (by kernel_rfl)) (fun _ _ _ h => h) (Or.inr ⟨by rfl, rfl⟩) ?_ ?_
      rotate_left
      ·simp only [Act.put, List.setIfInBounds_toArray, List.set_cons_zero, List.set_cons_succ, i64_w, i32_w]
       rfl
      refine pure_ (i := 8) (N := some 65) (v := undef) (a' := ?_) #[true, true, true, true, true, true, true, true, true, false, false, false, false, false, false, false, false, false, false, false, false, false, false, false, false, false, false, false, false, false, false] rfl rfl (any_of HT_.out (by kernel_rfl)) (fun _ _ _ h => h) (Or.inr ⟨by rfl, rfl⟩) ?_ ?_
      rotate_left
      ·simp only [Act.put, List.setIfInBounds_toArray, List.set_cons_zero, List.set_cons_succ, i64_w, i32_w]
       rfl
      refine pure_ (i := 9) (N := some 66) (v := undef) (a' := ?_) #[true, true, true, true, true, true, true, true, true, true, false, false, false, false, false, false, false, false, false, false, false, false, false, false, false, false, false, false, false, false, false] rfl rfl (any_of HT_.out (by kernel_rfl)) (fun _ _ _ h => h) (Or.inr ⟨by rfl, rfl⟩) ?_ ?_
      rotate_left
      ·simp only [Act.put, List.setIfInBounds_toArray, List.set_cons_zero, List.set_cons_succ, i64_w, i32_w]
       rfl
      refine pure_ (i := 10) (N := some 67) (v := undef) (a' := ?_) #[true, true, true, true, true, true, true, true, true, true, true, false, false, false, false, false, false, false, false, false, false, false, false, false, false, false, false, false, false, false, false] rfl rfl (any_of HT_.out (by kernel_rfl)) (fun _ _ _ h => h) (Or.inr ⟨by rfl, rfl⟩) ?_ ?_
      rotate_left
      ·simp only [Act.put, List.setIfInBounds_toArray, List.set_cons_zero, List.set_cons_succ, i64_w, i32_w]
       rfl
      refine pure_ (i := 11) (N := some 68) (v := undef) (a' := ?_) #[true, true, true, true, true, true, true, true, true, true, true, true, false, false, false, false, false, false, false, false, false, false, false, false, false, false, false, false, false, false, false] rfl rfl (any_of HT_.out (by kernel_rfl)) (fun _ _ _ h => h) (Or.inr ⟨by rfl, rfl⟩) ?_ ?_
      rotate_left
      ·simp only [Act.put, List.setIfInBounds_toArray, List.set_cons_zero, List.set_cons_succ, i64_w, i32_w]
       rfl
      refine pureA 12 69 HT_ ?_
      refine pureA 13 70 HT_ ?_
      refine pure_ (i := 14) (N := some 71) (v := undef) (a' := ?_) #[true, true, true, true, true, true, true, true, true, true, true, true, true, true, true, false, false, false, false, false, false, false, false, false, false, false, false, false, false, false, false] rfl rfl (any_of HT_.out (by kernel_rfl)) (fun _ _ _ h => h) (Or.inr ⟨by rfl, rfl⟩) ?_ ?_
      rotate_left
      ·simp only [Act.put, List.setIfInBounds_toArray, List.set_cons_zero, List.set_cons_succ, i64_w, i32_w]
       rfl
      refine pure_ (i := 15) (N := some 72) (v := undef) (a' := ?_) #[true, true, true, true, true, true, true, true, true, true, true, true, true, true, true, true, false, false, false, false, false, false, false, false, false, false, false, false, false, false, false] rfl rfl (any_of HT_.out (by kernel_rfl)) (fun _ _ _ h => h) (Or.inr ⟨by rfl, rfl⟩) ?_ ?_
      rotate_left
      ·simp only [Act.put, List.setIfInBounds_toArray, List.set_cons_zero, List.set_cons_succ, i64_w, i32_w]
       rfl
      refine pure_ (i := 16) (N := some 73) (v := undef) (a' := ?_) #[true, true, true, true, true, true, true, true, true, true, true, true, true, true, true, true, true, false, false, false, false, false, false, false, false, false, false, false, false, false, false] rfl rfl (any_of HT_.out (by kernel_rfl)) (fun _ _ _ h => h) (Or.inr ⟨by rfl, rfl⟩) ?_ ?_
      rotate_left
      ·simp only [Act.put, List.setIfInBounds_toArray, List.set_cons_zero, List.set_cons_succ, i64_w, i32_w]
       rfl
      refine pure_ (i := 17) (N := some 74) (v := undef) (a' := ?_) #[true, true, true, true, true, true, true, true, true, true, true, true, true, true, true, true, true, true, false, false, false, false, false, false, false, false, false, false, false, false, false] rfl rfl (any_of HT_.out (by kernel_rfl)) (fun _ _ _ h => h) (Or.inr ⟨by rfl, rfl⟩) ?_ ?_
      rotate_left
      ·simp only [Act.put, List.setIfInBounds_toArray, List.set_cons_zero, List.set_cons_succ, i64_w, i32_w]
       rfl
      refine pure_ (i := 18) (N := some 75) (v := undef) (a' := ?_) #[true, true, true, true, true, true, true, true, true, true, true, true, true, true, true, true, true, true, true, false, false, false, false, false, false, false, false, false, false, false, false] rfl rfl (any_of HT_.out (by kernel_rfl)) (fun _ _ _ h => h) (Or.inr ⟨by rfl, rfl⟩) ?_ ?_
      rotate_left
      ·simp only [Act.put, List.setIfInBounds_toArray, List.set_cons_zero, List.set_cons_succ, i64_w, i32_w]
       rfl
      refine pure_ (i := 19) (N := some 76) (v := undef) (a' := ?_) #[true, true, true, true, true, true, true, true, true, true, true, true, true, true, true, true, true, true, true, true, false, false, false, false, false, false, false, false, false, false, false] rfl rfl (any_of HT_.out (by kernel_rfl)) (fun _ _ _ h => h) (Or.inr ⟨by rfl, rfl⟩) ?_ ?_
      rotate_left
      ·simp only [Act.put, List.setIfInBounds_toArray, List.set_cons_zero, List.set_cons_succ, i64_w, i32_w]
       rfl
      refine pure_ (i := 20) (N := some 77) (v := undef) (a' := ?_) #[true, true, true, true, true, true, true, true, true, true, true, true, true, true, true, true, true, true, true, true, true, false, false, false, false, false, false, false, false, false, false] rfl rfl (any_of HT_.out (by kernel_rfl)) (fun _ _ _ h => h) (Or.inr ⟨by rfl, rfl⟩) ?_ ?_
      rotate_left
      ·simp only [Act.put, List.setIfInBounds_toArray, List.set_cons_zero, List.set_cons_succ, i64_w, i32_w]
       rfl
      refine pure_ (i := 21) (N := some 78) (v := undef) (a' := ?_) #[true, true, true, true, true, true, true, true, true, true, true, true, true, true, true, true, true, true, true, true, true, true, false, false, false, false, false, false, false, false, false] rfl rfl (any_of HT_.out (by kernel_rfl)) (fun _ _ _ h => h) (Or.inr ⟨by rfl, rfl⟩) ?_ ?_
      rotate_left
      ·simp only [Act.put, List.setIfInBounds_toArray, List.set_cons_zero, List.set_cons_succ, i64_w, i32_w]
       rfl
      refine pure_ (i := 22) (N := some 79) (v := undef) (a' := ?_) #[true, true, true, true, true, true, true, true, true, true, true, true, true, true, true, true, true, true, true, true, true, true, true, false, false, false, false, false, false, false, false] rfl rfl (any_of HT_.out (by kernel_rfl)) (fun _ _ _ h => h) (Or.inr ⟨by rfl, rfl⟩) ?_ ?_
      rotate_left
      ·simp only [Act.put, List.setIfInBounds_toArray, List.set_cons_zero, List.set_cons_succ, i64_w, i32_w]
       rfl
      refine pure_ (i := 23) (N := some 80) (v := undef) (a' := ?_) #[true, true, true, true, true, true, true, true, true, true, true, true, true, true, true, true, true, true, true, true, true, true, true, true, false, false, false, false, false, false, false] rfl rfl (any_of HT_.out (by kernel_rfl)) (fun _ _ _ h => h) (Or.inr ⟨by rfl, rfl⟩) ?_ ?_
      rotate_left
      ·simp only [Act.put, List.setIfInBounds_toArray, List.set_cons_zero, List.set_cons_succ, i64_w, i32_w]
       rfl
      refine pure_ (i := 24) (N := some 81) (v := undef) (a' := ?_) #[true, true, true, true, true, true, true, true, true, true, true, true, true, true, true, true, true, true, true, true, true, true, true, true, true, false, false, false, false, false, false] rfl rfl (any_of HT_.out (by kernel_rfl)) (fun _ _ _ h => h) (Or.inr ⟨by rfl, rfl⟩) ?_ ?_
      rotate_left
      ·simp only [Act.put, List.setIfInBounds_toArray, List.set_cons_zero, List.set_cons_succ, i64_w, i32_w]
       rfl
      refine pureA 25 82 HT_ ?_
      refine pureA 26 83 HT_ ?_
      refine pure_ (i := 27) (N := some 84) (v := undef) (a' := ?_) #[true, true, true, true, true, true, true, true, true, true, true, true, true, true, true, true, true, true, true, true, true, true, true, true, true, true, true, true, false, false, false] rfl rfl (any_of HT_.out (by kernel_rfl)) (fun _ _ _ h => h) (Or.inr ⟨by rfl, rfl⟩) ?_ ?_
      rotate_left
      ·simp only [Act.put, List.setIfInBounds_toArray, List.set_cons_zero, List.set_cons_succ, i64_w, i32_w]
       rfl
      refine pure_ (i := 28) (N := some 85) (v := undef) (a' := ?_) #[true, true, true, true, true, true, true, true, true, true, true, true, true, true, true, true, true, true, true, true, true, true, true, true, true, true, true, true, true, false, false] rfl rfl (any_of HT_.out (by kernel_rfl)) (fun _ _ _ h => h) (Or.inr ⟨by rfl, rfl⟩) ?_ ?_
      rotate_left
      ·simp only [Act.put, List.setIfInBounds_toArray, List.set_cons_zero, List.set_cons_succ, i64_w, i32_w]
       rfl
      refine pure_ (i := 29) (N := some 86) (v := undef) (a' := ?_) #[true, true, true, true, true, true, true, true, true, true, true, true, true, true, true, true, true, true, true, true, true, true, true, true, true, true, true, true, true, true, false] rfl rfl (any_of HT_.out (by kernel_rfl)) (fun _ _ _ h => h) (Or.inr ⟨by rfl, rfl⟩) ?_ ?_
      rotate_left
      ·simp only [Act.put, List.setIfInBounds_toArray, List.set_cons_zero, List.set_cons_succ, i64_w, i32_w]
       rfl
      refine pureA 30 87 HT_ ?_
      refine done_ (done_of HT_.out (by kernel_rfl)) ?_
      try go_wp2
      go_meet
      case rel => exact ⟨_, (true), (by first | (with_reducible rfl) | rfl | (simp; done) | (simp [*]; done)), H', ⟨by have := HJ3.out; first | omega | exact Nat.le_refl _⟩, ⟨by (with_reducible repeat (first | apply Kd.V_alloc | apply Kd.V_drewN | apply Kd.V_drew)); exact HO380.out⟩, ⟨by (with_reducible repeat (first | apply Kd.V_alloc | apply Kd.V_drewN | apply Kd.V_drew)); exact HO383.out⟩, ⟨bo BK369⟩, ⟨bo BK370⟩, ⟨bo BK371⟩, ⟨bo BK388⟩, ⟨bo BK389⟩, ⟨bl HB⟩⟩
    case rest =>
     as_aux_lemma =>
     clear HC67
     try clear c13; try clear c90; try clear c92; try clear c92b0; try clear c92b1
     obtain ⟨kq, x87_66, rfl, HA, HJ66, HO_389002, HO_389003, BK369, BK370, BK371, BK388, BK389, HB⟩ := hcut
     cases kq with
     | zero => exact absurd HA.out (by simp [sandglasslaw13_ExactMay.j1])
     | succ kj66 =>
      have H := HA.out
      clear HA
      simp only [sandglasslaw13_ExactMay.j1] at H
      by_cases c105 : x87_66 = true
      ·subst c105
       rw [if_pos rfl] at H
       exact absurd H (by simp)
      ·replace c105 := Bool.eq_false_iff.mpr c105
       subst c105
       rw [if_neg (show ¬ (false = true) by decide)] at H
       have HC106 := Aside0.mk H
       clear H
       have hnb107 := NB389_369.out
       have hnc107 := NB369_389.out
       have hnb108 := NB389_370.out
       have hnc108 := NB370_389.out
       have hnb109 := NB389_371.out
       have hnc109 := NB371_389.out
       have hnb110 := NB389_388.out
       have hnc110 := NB388_389.out
       obtain ⟨hcz111_0, hcz111_1, hcz111_2, hcz111_3⟩ := ce4 BK389
       obtain ⟨hfz111_0, hfz111_1, hfz111_2, hfz111_3⟩ := fr4 BK389
       go_upto_if 90 with (fail)
       go_cut [] (fun wc => ∃ (kq : Nat), Aside0 (sandglasslaw13_ExactMay.j2 kq a2_1 a0_0 a0_1 a0_2 a0_3 t376 t377 t378 t381 t384 t385 t386 t387 = some r) ∧ Aside0 (kq ≤ kj66) ∧ Aside0 (Kd.V (Kd.int .i64) 3 wc w.heap.size (fun k_ => k_ ≠ gb369 ∧ k_ ≠ gb370 ∧ k_ ≠ gb371 ∧ k_ ≠ gb388 ∧ k_ ≠ gb389) (.slice Ao81 t378.length co81) t378) ∧ Aside0 (Kd.V k50 50 wc w.heap.size (fun k_ => k_ ≠ gb369 ∧ k_ ≠ gb370 ∧ k_ ≠ gb371 ∧ k_ ≠ gb388 ∧ k_ ≠ gb389) (.slice Ao82 t381.length co82) t381) ∧ Aside0 (wc.heap[gb369]? = some (.cells #[.int .i64 a0_0, .int .i64 a0_1, .int .i64 a0_2, .int .i64 a0_3] 23 (0, 0))) ∧ Aside0 (wc.heap[gb370]? = some (.cells #[.int .i64 a1_0, .int .i64 a1_1, (.slice A1_2 l1_2.length c1_2), (.slice A1_3 l1_3.length c1_3)] 27 (0, 0))) ∧ Aside0 (wc.heap[gb371]? = some (.cells #[.int .i64 a2_0, .int .i64 a2_1] 28 (0, 0))) ∧ Aside0 (wc.heap[gb388]? = some (.cells #[.int .i64 t376, .int .i64 t377, (.slice Ao81 t378.length co81), (.slice Ao82 t381.length co82)] 27 (0, 0))) ∧ Aside0 (wc.heap[gb389]? = some (.cells #[.bool t384, .int .i64 t385, .int .i64 t386, .int .i64 t387] 32 (0, 0))) ∧ Aside0 (Below w.heap.size w wc))
       case first =>
        as_aux_lemma =>
        have H := HC106.out
        clear HC106
        by_cases c112 : t385 > 0
        ·rw [if_pos c112] at H
         have c112b0 : decide (0 < t385) = true := decide_eq_true c112
         clear c112
         (first | rw [c112b0] | (simp only [i64_w, i32_w]; rw [c112b0]) | skip)
         replace H := Option.bind_eq_some_iff.mp H
         obtain ⟨⟨t392, t393, t394, t397, t400, t401, t402, t403⟩, A1130, H⟩ := H
         have A113 := Aside0.mk A1130
         clear A1130
         by_cases c114 : t400 = true
         ·subst c114
          rw [if_pos rfl] at H
          have H' := Aside0.mk H
          clear H
          have hnb115 := NB369_370.out
          have hnc115 := NB370_369.out
          have hnb116 := NB369_371.out
          have hnc116 := NB371_369.out
          have hnb117 := NB369_388.out
          have hnc117 := NB388_369.out
          have hnb118 := NB369_389.out
          have hnc118 := NB389_369.out
          obtain ⟨hcz119_0, hcz119_1, hcz119_2, hcz119_3⟩ := ce4 BK369
          obtain ⟨hfz119_0, hfz119_1, hfz119_2, hfz119_3⟩ := fr4 BK369
          have hnb120 := NB388_370.out
          have hnc120 := NB370_388.out
          have hnb121 := NB388_371.out
          have hnc121 := NB371_388.out
          have hnb122 := NB388_389.out
          have hnc122 := NB389_388.out
          obtain ⟨hcz123_0, hcz123_1, hcz123_2, hcz123_3⟩ := ce4 BK388
          obtain ⟨hfz123_0, hfz123_1, hfz123_2, hfz123_3⟩ := fr4 BK388
          have hnb124 := NB389_370.out
          have hnc124 := NB370_389.out
          have hnb125 := NB389_371.out
          have hnc125 := NB371_389.out
          obtain ⟨hcz126_0, hcz126_1, hcz126_2, hcz126_3⟩ := ce4 BK389
          obtain ⟨hfz126_0, hfz126_1, hfz126_2, hfz126_3⟩ := fr4 BK389
          go_wp2_with (first | ((with_reducible refine gate_callee (f := 10) rfl ?_); refine goesL_ (some 98) rfl rfl Try.func10 (by kernel_rfl) rfl #[.agg #[.int .i64 a0_0, .int .i64 a0_1, .int .i64 a0_2, .int .i64 a0_3], .agg #[.int .i64 t376, .int .i64 t377, .slice Ao81 t378.length co81, .slice Ao82 t381.length co82], .int .i64 t376, .int .i64 t385] rfl (by (try simp only [List.map_toArray, List.map_cons, List.map_nil]); first | done | rfl | (simp only [List.length_drop, List.length_take]; rfl)) ?_; (with_reducible refine (exact_Ask.calls kj66 a0_0 a0_1 a0_2 a0_3 t376 t377 (fun k_ => (k_ ≠ gb369 ∧ (k_ ≠ gb370 ∧ (k_ ≠ gb371 ∧ (k_ ≠ gb388 ∧ k_ ≠ gb389))))) _ _ t378 (fun k_ => (k_ ≠ gb369 ∧ (k_ ≠ gb370 ∧ (k_ ≠ gb371 ∧ (k_ ≠ gb388 ∧ k_ ≠ gb389))))) _ _ t381 t376 t385 t392 t393 t394 t397 true t401 t402 t403 _ ?side1 ?side2 A113.out).mono ?_); (case side1 => exact HO_389002.out); (case side2 => exact HO_389003.out); rintro e w127 ⟨v395, v398, rfl, ho0, ho1, hb⟩; refine ⟨_, rfl, ?_⟩; have HO396 := Aside0.mk (Kd.V_lower (Kd.V_mono (ok' := fun k_ => k_ ≠ gb369 ∧ k_ ≠ gb370 ∧ k_ ≠ gb371 ∧ k_ ≠ gb388 ∧ k_ ≠ gb389) ho0 (fun k_ hk_ => ⟨Or.elim hk_ (fun hs_ => Or.elim hs_ (fun hs_ => hs_.1) (fun hs_ => hs_.1)) (fun hn_ => (Kd.freshB (bo BK369) k_ hn_)), Or.elim hk_ (fun hs_ => Or.elim hs_ (fun hs_ => hs_.2.1) (fun hs_ => hs_.2.1)) (fun hn_ => (Kd.freshB (bo BK370) k_ hn_)), Or.elim hk_ (fun hs_ => Or.elim hs_ (fun hs_ => hs_.2.2.1) (fun hs_ => hs_.2.2.1)) (fun hn_ => (Kd.freshB (bo BK371) k_ hn_)), Or.elim hk_ (fun hs_ => Or.elim hs_ (fun hs_ => hs_.2.2.2.1) (fun hs_ => hs_.2.2.2.1)) (fun hn_ => (Kd.freshB (bo BK388) k_ hn_)), Or.elim hk_ (fun hs_ => Or.elim hs_ (fun hs_ => hs_.2.2.2.2) (fun hs_ => hs_.2.2.2.2)) (fun hn_ => (Kd.freshB (bo BK389) k_ hn_))⟩)) (below_size (bl HB))); have HO399 := Aside0.mk (Kd.V_lower (Kd.V_mono (ok' := fun k_ => k_ ≠ gb369 ∧ k_ ≠ gb370 ∧ k_ ≠ gb371 ∧ k_ ≠ gb388 ∧ k_ ≠ gb389) ho1 (fun k_ hk_ => ⟨Or.elim hk_ (fun hs_ => Or.elim hs_ (fun hs_ => hs_.1) (fun hs_ => hs_.1)) (fun hn_ => (Kd.freshB (bo BK369) k_ hn_)), Or.elim hk_ (fun hs_ => Or.elim hs_ (fun hs_ => hs_.2.1) (fun hs_ => hs_.2.1)) (fun hn_ => (Kd.freshB (bo BK370) k_ hn_)), Or.elim hk_ (fun hs_ => Or.elim hs_ (fun hs_ => hs_.2.2.1) (fun hs_ => hs_.2.2.1)) (fun hn_ => (Kd.freshB (bo BK371) k_ hn_)), Or.elim hk_ (fun hs_ => Or.elim hs_ (fun hs_ => hs_.2.2.2.1) (fun hs_ => hs_.2.2.2.1)) (fun hn_ => (Kd.freshB (bo BK388) k_ hn_)), Or.elim hk_ (fun hs_ => Or.elim hs_ (fun hs_ => hs_.2.2.2.2) (fun hs_ => hs_.2.2.2.2)) (fun hn_ => (Kd.freshB (bo BK389) k_ hn_))⟩)) (below_size (bl HB))); replace HO_389002 := vb HO_389002 hb; replace HO_389003 := vb HO_389003 hb; replace BK369 := Aside0.mk (blk_below (bo BK369) hb); replace BK370 := Aside0.mk (blk_below (bo BK370) hb); replace BK371 := Aside0.mk (blk_below (bo BK371) hb); replace BK388 := Aside0.mk (blk_below (bo BK388) hb); replace BK389 := Aside0.mk (blk_below (bo BK389) hb); replace HB := Aside0.mk (below_step (bl HB) hb); (try clear hb); (try clear hb2); (try clear hk); (try clear hi); (try clear ho0); (try clear ho1)) | ((with_reducible refine gate_dst (N := 11) rfl ?_); (try (refine gate_guard (by rfl) ?_; dsimp only)); refine box_event ?hg (N := 11) ?hd (cs := #[.int .i64 0, .int .i64 0, .slice none 0 0, .slice none 0 0]) (t := 27) ?hr ?_; (case hd => rfl); (case hg => rfl); (case hr => first | (go_simp; done) | (go_simp; rfl)); intro gb404 hg w128 hbox hb; have BK404 := Aside0.mk (hbox); have GW404 := Aside0.mk ((by rw [hg]; exact (below_size (bl HB)) : w.heap.size ≤ gb404)); have GE404 := Aside0.mk ((by rw [hg]; exact (below_size (bl HB)) : w.heap.size ≤ gb404)); have NB369_404 := nb BK369 hg; have NB404_369 := bn BK369 hg; have NB370_404 := nb BK370 hg; have NB404_370 := bn BK370 hg; have NB371_404 := nb BK371 hg; have NB404_371 := bn BK371 hg; have NB388_404 := nb BK388 hg; have NB404_388 := bn BK388 hg; have NB389_404 := nb BK389 hg; have NB404_389 := bn BK389 hg; replace HO_389002 := ve HO_389002 hg hb; replace HO_389003 := ve HO_389003 hg hb; replace HO396 := ve HO396 hg hb; replace HO399 := ve HO399 hg hb; replace BK369 := Aside0.mk (blk_below (bo BK369) hb); replace BK370 := Aside0.mk (blk_below (bo BK370) hb); replace BK371 := Aside0.mk (blk_below (bo BK371) hb); replace BK388 := Aside0.mk (blk_below (bo BK388) hb); replace BK389 := Aside0.mk (blk_below (bo BK389) hb); replace HB := Aside0.mk (below_step (bl HB) hb); clear hb hbox hg) | ((with_reducible refine gate_dst (N := 12) rfl ?_); (try (refine gate_guard (by rfl) ?_; dsimp only)); refine box_event ?hg (N := 12) ?hd (cs := #[.bool false, .int .i64 0, .int .i64 0, .int .i64 0]) (t := 32) ?hr ?_; (case hd => rfl); (case hg => rfl); (case hr => first | (go_simp; done) | (go_simp; rfl)); intro gb405 hg w129 hbox hb; have BK405 := Aside0.mk (hbox); have GW405 := Aside0.mk ((by rw [hg]; exact (below_size (bl HB)) : w.heap.size ≤ gb405)); have GE405 := Aside0.mk ((by rw [hg]; exact (below_size (bl HB)) : w.heap.size ≤ gb405)); have NB369_405 := nb BK369 hg; have NB405_369 := bn BK369 hg; have NB370_405 := nb BK370 hg; have NB405_370 := bn BK370 hg; have NB371_405 := nb BK371 hg; have NB405_371 := bn BK371 hg; have NB388_405 := nb BK388 hg; have NB405_388 := bn BK388 hg; have NB389_405 := nb BK389 hg; have NB405_389 := bn BK389 hg; have NB404_405 := nb BK404 hg; have NB405_404 := bn BK404 hg; replace HO_389002 := ve HO_389002 hg hb; replace HO_389003 := ve HO_389003 hg hb; replace HO396 := ve HO396 hg hb; replace HO399 := ve HO399 hg hb; replace BK369 := Aside0.mk (blk_below (bo BK369) hb); replace BK370 := Aside0.mk (blk_below (bo BK370) hb); replace BK371 := Aside0.mk (blk_below (bo BK371) hb); replace BK388 := Aside0.mk (blk_below (bo BK388) hb); replace BK389 := Aside0.mk (blk_below (bo BK389) hb); replace BK404 := Aside0.mk (blk_below (bo BK404) hb); replace HB := Aside0.mk (below_step (bl HB) hb); clear hb hbox hg; have hnb130 := NB404_369.out; have hnc130 := NB369_404.out; have hnb131 := NB404_370.out; have hnc131 := NB370_404.out; have hnb132 := NB404_371.out; have hnc132 := NB371_404.out; have hnb133 := NB404_388.out; have hnc133 := NB388_404.out; have hnb134 := NB404_389.out; have hnc134 := NB389_404.out; have hnb135 := NB404_405.out; have hnc135 := NB405_404.out; obtain ⟨hcz136_0, hcz136_1, hcz136_2, hcz136_3⟩ := ce4 BK404; obtain ⟨hfz136_0, hfz136_1, hfz136_2, hfz136_3⟩ := fr4 BK404; obtain ⟨Ao137, co137, eo137⟩ := Kd.V_slice HO396.out; subst eo137; obtain ⟨Ao138, co138, eo138⟩ := Kd.V_slice HO399.out; subst eo138) | ((with_reducible refine gate_store (t := 27) (p := 11) rfl ?_); refine store_event (t := 27) (p := 11) (v := ?vo_w139) (w1 := ((((w129.setCell ⟨gb404, 0, none⟩ (.int .i64 t392)).setCell ⟨gb404, 1, none⟩ (.int .i64 t393)).setCell ⟨gb404, 2, none⟩ (.slice Ao137 t394.length co137)).setCell ⟨gb404, 3, none⟩ (.slice Ao138 t397.length co138))) ?hg ?ho ?hn ?hr ?_; (case ho => rfl); (case hg => rfl); (case hn => rfl); (case hr => first | (go_simp; done) | (go_simp; rfl)); intro w139 hw; replace HO_389002 : Aside0 (Kd.V (Kd.int .i64) 3 w139 w.heap.size (fun k_ => k_ ≠ gb369 ∧ k_ ≠ gb370 ∧ k_ ≠ gb371 ∧ k_ ≠ gb388 ∧ k_ ≠ gb389 ∧ k_ ≠ gb404 ∧ k_ ≠ gb405) (.slice Ao81 t378.length co81) t378) := ⟨(by rw [hw]; exact (by (with_reducible repeat (first | apply Kd.V_alloc | apply Kd.V_drewN | apply Kd.V_drew)); exact Kd.V_mono (Kd.V_far (p := ⟨gb404, 3, none⟩) (Kd.V_far (p := ⟨gb404, 2, none⟩) (Kd.V_far (p := ⟨gb404, 1, none⟩) (Kd.V_far (p := ⟨gb404, 0, none⟩) (Kd.V_mono HO_389002.out (fun k_ hk => (⟨hk, hk.1.2⟩ : _ ∧ k_ ≠ gb404))) (fun _ hk => hk.2) (.int .i64 t392)) (fun _ hk => hk.2) (.int .i64 t393)) (fun _ hk => hk.2) (.slice Ao137 t394.length co137)) (fun _ hk => hk.2) (.slice Ao138 t397.length co138)) (fun _ hk => ⟨hk.1.1.1.1, ⟨hk.1.1.1.2.1, ⟨hk.1.1.1.2.2.1, ⟨hk.1.1.1.2.2.2.1, ⟨hk.1.1.1.2.2.2.2, ⟨hk.1.1.2, hk.1.2⟩⟩⟩⟩⟩⟩)))⟩; replace HO_389003 : Aside0 (Kd.V k50 50 w139 w.heap.size (fun k_ => k_ ≠ gb369 ∧ k_ ≠ gb370 ∧ k_ ≠ gb371 ∧ k_ ≠ gb388 ∧ k_ ≠ gb389 ∧ k_ ≠ gb404 ∧ k_ ≠ gb405) (.slice Ao82 t381.length co82) t381) := ⟨(by rw [hw]; exact (by (with_reducible repeat (first | apply Kd.V_alloc | apply Kd.V_drewN | apply Kd.V_drew)); exact Kd.V_mono (Kd.V_far (p := ⟨gb404, 3, none⟩) (Kd.V_far (p := ⟨gb404, 2, none⟩) (Kd.V_far (p := ⟨gb404, 1, none⟩) (Kd.V_far (p := ⟨gb404, 0, none⟩) (Kd.V_mono HO_389003.out (fun k_ hk => (⟨hk, hk.1.2⟩ : _ ∧ k_ ≠ gb404))) (fun _ hk => hk.2) (.int .i64 t392)) (fun _ hk => hk.2) (.int .i64 t393)) (fun _ hk => hk.2) (.slice Ao137 t394.length co137)) (fun _ hk => hk.2) (.slice Ao138 t397.length co138)) (fun _ hk => ⟨hk.1.1.1.1, ⟨hk.1.1.1.2.1, ⟨hk.1.1.1.2.2.1, ⟨hk.1.1.1.2.2.2.1, ⟨hk.1.1.1.2.2.2.2, ⟨hk.1.1.2, hk.1.2⟩⟩⟩⟩⟩⟩)))⟩; replace HO396 : Aside0 (Kd.V (Kd.int .i64) 3 w139 w.heap.size (fun k_ => k_ ≠ gb369 ∧ k_ ≠ gb370 ∧ k_ ≠ gb371 ∧ k_ ≠ gb388 ∧ k_ ≠ gb389 ∧ k_ ≠ gb404 ∧ k_ ≠ gb405) (.slice Ao137 t394.length co137) t394) := ⟨(by rw [hw]; exact (by (with_reducible repeat (first | apply Kd.V_alloc | apply Kd.V_drewN | apply Kd.V_drew)); exact Kd.V_mono (Kd.V_far (p := ⟨gb404, 3, none⟩) (Kd.V_far (p := ⟨gb404, 2, none⟩) (Kd.V_far (p := ⟨gb404, 1, none⟩) (Kd.V_far (p := ⟨gb404, 0, none⟩) (Kd.V_mono HO396.out (fun k_ hk => (⟨hk, hk.1.2⟩ : _ ∧ k_ ≠ gb404))) (fun _ hk => hk.2) (.int .i64 t392)) (fun _ hk => hk.2) (.int .i64 t393)) (fun _ hk => hk.2) (.slice Ao137 t394.length co137)) (fun _ hk => hk.2) (.slice Ao138 t397.length co138)) (fun _ hk => ⟨hk.1.1.1.1, ⟨hk.1.1.1.2.1, ⟨hk.1.1.1.2.2.1, ⟨hk.1.1.1.2.2.2.1, ⟨hk.1.1.1.2.2.2.2, ⟨hk.1.1.2, hk.1.2⟩⟩⟩⟩⟩⟩)))⟩; replace HO399 : Aside0 (Kd.V k50 50 w139 w.heap.size (fun k_ => k_ ≠ gb369 ∧ k_ ≠ gb370 ∧ k_ ≠ gb371 ∧ k_ ≠ gb388 ∧ k_ ≠ gb389 ∧ k_ ≠ gb404 ∧ k_ ≠ gb405) (.slice Ao138 t397.length co138) t397) := ⟨(by rw [hw]; exact (by (with_reducible repeat (first | apply Kd.V_alloc | apply Kd.V_drewN | apply Kd.V_drew)); exact Kd.V_mono (Kd.V_far (p := ⟨gb404, 3, none⟩) (Kd.V_far (p := ⟨gb404, 2, none⟩) (Kd.V_far (p := ⟨gb404, 1, none⟩) (Kd.V_far (p := ⟨gb404, 0, none⟩) (Kd.V_mono HO399.out (fun k_ hk => (⟨hk, hk.1.2⟩ : _ ∧ k_ ≠ gb404))) (fun _ hk => hk.2) (.int .i64 t392)) (fun _ hk => hk.2) (.int .i64 t393)) (fun _ hk => hk.2) (.slice Ao137 t394.length co137)) (fun _ hk => hk.2) (.slice Ao138 t397.length co138)) (fun _ hk => ⟨hk.1.1.1.1, ⟨hk.1.1.1.2.1, ⟨hk.1.1.1.2.2.1, ⟨hk.1.1.1.2.2.2.1, ⟨hk.1.1.1.2.2.2.2, ⟨hk.1.1.2, hk.1.2⟩⟩⟩⟩⟩⟩)))⟩; replace BK369 : Aside0 (w139.heap[gb369]? = some (.cells #[.int .i64 a0_0, .int .i64 a0_1, .int .i64 a0_2, .int .i64 a0_3] 23 (0, 0))) := ⟨(by rw [hw]; exact (by (with_reducible repeat (first | refine blk_drewN ?_ _ | refine blk_drew ?_ | refine blk_alloc ?_ _)); refine blk_far ?_ NB369_404.out _; (with_reducible repeat (first | refine blk_drewN ?_ _ | refine blk_drew ?_ | refine blk_alloc ?_ _)); refine blk_far ?_ NB369_404.out _; (with_reducible repeat (first | refine blk_drewN ?_ _ | refine blk_drew ?_ | refine blk_alloc ?_ _)); refine blk_far ?_ NB369_404.out _; (with_reducible repeat (first | refine blk_drewN ?_ _ | refine blk_drew ?_ | refine blk_alloc ?_ _)); refine blk_far ?_ NB369_404.out _; (with_reducible repeat (first | refine blk_drewN ?_ _ | refine blk_drew ?_ | refine blk_alloc ?_ _)); exact BK369.out))⟩; replace BK370 : Aside0 (w139.heap[gb370]? = some (.cells #[.int .i64 a1_0, .int .i64 a1_1, .slice A1_2 l1_2.length c1_2, .slice A1_3 l1_3.length c1_3] 27 (0, 0))) := ⟨(by rw [hw]; exact (by (with_reducible repeat (first | refine blk_drewN ?_ _ | refine blk_drew ?_ | refine blk_alloc ?_ _)); refine blk_far ?_ NB370_404.out _; (with_reducible repeat (first | refine blk_drewN ?_ _ | refine blk_drew ?_ | refine blk_alloc ?_ _)); refine blk_far ?_ NB370_404.out _; (with_reducible repeat (first | refine blk_drewN ?_ _ | refine blk_drew ?_ | refine blk_alloc ?_ _)); refine blk_far ?_ NB370_404.out _; (with_reducible repeat (first | refine blk_drewN ?_ _ | refine blk_drew ?_ | refine blk_alloc ?_ _)); refine blk_far ?_ NB370_404.out _; (with_reducible repeat (first | refine blk_drewN ?_ _ | refine blk_drew ?_ | refine blk_alloc ?_ _)); exact BK370.out))⟩; replace BK371 : Aside0 (w139.heap[gb371]? = some (.cells #[.int .i64 a2_0, .int .i64 a2_1] 28 (0, 0))) := ⟨(by rw [hw]; exact (by (with_reducible repeat (first | refine blk_drewN ?_ _ | refine blk_drew ?_ | refine blk_alloc ?_ _)); refine blk_far ?_ NB371_404.out _; (with_reducible repeat (first | refine blk_drewN ?_ _ | refine blk_drew ?_ | refine blk_alloc ?_ _)); refine blk_far ?_ NB371_404.out _; (with_reducible repeat (first | refine blk_drewN ?_ _ | refine blk_drew ?_ | refine blk_alloc ?_ _)); refine blk_far ?_ NB371_404.out _; (with_reducible repeat (first | refine blk_drewN ?_ _ | refine blk_drew ?_ | refine blk_alloc ?_ _)); refine blk_far ?_ NB371_404.out _; (with_reducible repeat (first | refine blk_drewN ?_ _ | refine blk_drew ?_ | refine blk_alloc ?_ _)); exact BK371.out))⟩; replace BK388 : Aside0 (w139.heap[gb388]? = some (.cells #[.int .i64 t376, .int .i64 t377, .slice Ao81 t378.length co81, .slice Ao82 t381.length co82] 27 (0, 0))) := ⟨(by rw [hw]; exact (by (with_reducible repeat (first | refine blk_drewN ?_ _ | refine blk_drew ?_ | refine blk_alloc ?_ _)); refine blk_far ?_ NB388_404.out _; (with_reducible repeat (first | refine blk_drewN ?_ _ | refine blk_drew ?_ | refine blk_alloc ?_ _)); refine blk_far ?_ NB388_404.out _; (with_reducible repeat (first | refine blk_drewN ?_ _ | refine blk_drew ?_ | refine blk_alloc ?_ _)); refine blk_far ?_ NB388_404.out _; (with_reducible repeat (first | refine blk_drewN ?_ _ | refine blk_drew ?_ | refine blk_alloc ?_ _)); refine blk_far ?_ NB388_404.out _; (with_reducible repeat (first | refine blk_drewN ?_ _ | refine blk_drew ?_ | refine blk_alloc ?_ _)); exact BK388.out))⟩; replace BK389 : Aside0 (w139.heap[gb389]? = some (.cells #[.bool t384, .int .i64 t385, .int .i64 t386, .int .i64 t387] 32 (0, 0))) := ⟨(by rw [hw]; exact (by (with_reducible repeat (first | refine blk_drewN ?_ _ | refine blk_drew ?_ | refine blk_alloc ?_ _)); refine blk_far ?_ NB389_404.out _; (with_reducible repeat (first | refine blk_drewN ?_ _ | refine blk_drew ?_ | refine blk_alloc ?_ _)); refine blk_far ?_ NB389_404.out _; (with_reducible repeat (first | refine blk_drewN ?_ _ | refine blk_drew ?_ | refine blk_alloc ?_ _)); refine blk_far ?_ NB389_404.out _; (with_reducible repeat (first | refine blk_drewN ?_ _ | refine blk_drew ?_ | refine blk_alloc ?_ _)); refine blk_far ?_ NB389_404.out _; (with_reducible repeat (first | refine blk_drewN ?_ _ | refine blk_drew ?_ | refine blk_alloc ?_ _)); exact BK389.out))⟩; replace BK404 : Aside0 (w139.heap[gb404]? = some (.cells #[.int .i64 t392, .int .i64 t393, .slice Ao137 t394.length co137, .slice Ao138 t397.length co138] 27 (0, 0))) := ⟨(by rw [hw]; exact (by (with_reducible repeat (first | refine blk_drewN ?_ _ | refine blk_drew ?_ | refine blk_alloc ?_ _)); refine blk_put (cs := #[.int .i64 t392, .int .i64 t393, .slice Ao137 t394.length co137, .slice none 0 0]) ?_ 3 _ rfl; (with_reducible repeat (first | refine blk_drewN ?_ _ | refine blk_drew ?_ | refine blk_alloc ?_ _)); refine blk_put (cs := #[.int .i64 t392, .int .i64 t393, .slice none 0 0, .slice none 0 0]) ?_ 2 _ rfl; (with_reducible repeat (first | refine blk_drewN ?_ _ | refine blk_drew ?_ | refine blk_alloc ?_ _)); refine blk_put (cs := #[.int .i64 t392, .int .i64 0, .slice none 0 0, .slice none 0 0]) ?_ 1 _ rfl; (with_reducible repeat (first | refine blk_drewN ?_ _ | refine blk_drew ?_ | refine blk_alloc ?_ _)); refine blk_put (cs := #[.int .i64 0, .int .i64 0, .slice none 0 0, .slice none 0 0]) ?_ 0 _ rfl; (with_reducible repeat (first | refine blk_drewN ?_ _ | refine blk_drew ?_ | refine blk_alloc ?_ _)); exact BK404.out))⟩; replace BK405 : Aside0 (w139.heap[gb405]? = some (.cells #[.bool false, .int .i64 0, .int .i64 0, .int .i64 0] 32 (0, 0))) := ⟨(by rw [hw]; exact (by (with_reducible repeat (first | refine blk_drewN ?_ _ | refine blk_drew ?_ | refine blk_alloc ?_ _)); refine blk_far ?_ NB405_404.out _; (with_reducible repeat (first | refine blk_drewN ?_ _ | refine blk_drew ?_ | refine blk_alloc ?_ _)); refine blk_far ?_ NB405_404.out _; (with_reducible repeat (first | refine blk_drewN ?_ _ | refine blk_drew ?_ | refine blk_alloc ?_ _)); refine blk_far ?_ NB405_404.out _; (with_reducible repeat (first | refine blk_drewN ?_ _ | refine blk_drew ?_ | refine blk_alloc ?_ _)); refine blk_far ?_ NB405_404.out _; (with_reducible repeat (first | refine blk_drewN ?_ _ | refine blk_drew ?_ | refine blk_alloc ?_ _)); exact BK405.out))⟩; replace HB : Aside0 (Below w.heap.size w w139) := ⟨(by rw [hw]; exact (bl HB))⟩; clear hw; have hnb140 := NB405_369.out; have hnc140 := NB369_405.out; have hnb141 := NB405_370.out; have hnc141 := NB370_405.out; have hnb142 := NB405_371.out; have hnc142 := NB371_405.out; have hnb143 := NB405_388.out; have hnc143 := NB388_405.out; have hnb144 := NB405_389.out; have hnc144 := NB389_405.out; obtain ⟨hcz145_0, hcz145_1, hcz145_2, hcz145_3⟩ := ce4 BK405; obtain ⟨hfz145_0, hfz145_1, hfz145_2, hfz145_3⟩ := fr4 BK405) | ((with_reducible refine gate_store (t := 32) (p := 12) rfl ?_); refine store_event (t := 32) (p := 12) (v := ?vo_w146) (w1 := ((((w139.setCell ⟨gb405, 0, none⟩ (.bool true)).setCell ⟨gb405, 1, none⟩ (.int .i64 t401)).setCell ⟨gb405, 2, none⟩ (.int .i64 t402)).setCell ⟨gb405, 3, none⟩ (.int .i64 t403))) ?hg ?ho ?hn ?hr ?_; (case ho => rfl); (case hg => rfl); (case hn => rfl); (case hr => first | (go_simp; done) | (go_simp; rfl)); intro w146 hw; replace HO_389002 : Aside0 (Kd.V (Kd.int .i64) 3 w146 w.heap.size (fun k_ => k_ ≠ gb369 ∧ k_ ≠ gb370 ∧ k_ ≠ gb371 ∧ k_ ≠ gb388 ∧ k_ ≠ gb389 ∧ k_ ≠ gb404 ∧ k_ ≠ gb405) (.slice Ao81 t378.length co81) t378) := ⟨(by rw [hw]; exact (by (with_reducible repeat (first | apply Kd.V_alloc | apply Kd.V_drewN | apply Kd.V_drew)); exact Kd.V_mono (Kd.V_far (p := ⟨gb405, 3, none⟩) (Kd.V_far (p := ⟨gb405, 2, none⟩) (Kd.V_far (p := ⟨gb405, 1, none⟩) (Kd.V_far (p := ⟨gb405, 0, none⟩) (Kd.V_mono HO_389002.out (fun k_ hk => (⟨hk, hk.2.2.2.2.2.2⟩ : _ ∧ k_ ≠ gb405))) (fun _ hk => hk.2) (.bool true)) (fun _ hk => hk.2) (.int .i64 t401)) (fun _ hk => hk.2) (.int .i64 t402)) (fun _ hk => hk.2) (.int .i64 t403)) (fun _ hk => ⟨hk.1.1, ⟨hk.1.2.1, ⟨hk.1.2.2.1, ⟨hk.1.2.2.2.1, ⟨hk.1.2.2.2.2.1, ⟨hk.1.2.2.2.2.2.1, hk.1.2.2.2.2.2.2⟩⟩⟩⟩⟩⟩)))⟩; replace HO_389003 : Aside0 (Kd.V k50 50 w146 w.heap.size (fun k_ => k_ ≠ gb369 ∧ k_ ≠ gb370 ∧ k_ ≠ gb371 ∧ k_ ≠ gb388 ∧ k_ ≠ gb389 ∧ k_ ≠ gb404 ∧ k_ ≠ gb405) (.slice Ao82 t381.length co82) t381) := ⟨(by rw [hw]; exact (by (with_reducible repeat (first | apply Kd.V_alloc | apply Kd.V_drewN | apply Kd.V_drew)); exact Kd.V_mono (Kd.V_far (p := ⟨gb405, 3, none⟩) (Kd.V_far (p := ⟨gb405, 2, none⟩) (Kd.V_far (p := ⟨gb405, 1, none⟩) (Kd.V_far (p := ⟨gb405, 0, none⟩) (Kd.V_mono HO_389003.out (fun k_ hk => (⟨hk, hk.2.2.2.2.2.2⟩ : _ ∧ k_ ≠ gb405))) (fun _ hk => hk.2) (.bool true)) (fun _ hk => hk.2) (.int .i64 t401)) (fun _ hk => hk.2) (.int .i64 t402)) (fun _ hk => hk.2) (.int .i64 t403)) (fun _ hk => ⟨hk.1.1, ⟨hk.1.2.1, ⟨hk.1.2.2.1, ⟨hk.1.2.2.2.1, ⟨hk.1.2.2.2.2.1, ⟨hk.1.2.2.2.2.2.1, hk.1.2.2.2.2.2.2⟩⟩⟩⟩⟩⟩)))⟩; replace HO396 : Aside0 (Kd.V (Kd.int .i64) 3 w146 w.heap.size (fun k_ => k_ ≠ gb369 ∧ k_ ≠ gb370 ∧ k_ ≠ gb371 ∧ k_ ≠ gb388 ∧ k_ ≠ gb389 ∧ k_ ≠ gb404 ∧ k_ ≠ gb405) (.slice Ao137 t394.length co137) t394) := ⟨(by rw [hw]; exact (by (with_reducible repeat (first | apply Kd.V_alloc | apply Kd.V_drewN | apply Kd.V_drew)); exact Kd.V_mono (Kd.V_far (p := ⟨gb405, 3, none⟩) (Kd.V_far (p := ⟨gb405, 2, none⟩) (Kd.V_far (p := ⟨gb405, 1, none⟩) (Kd.V_far (p := ⟨gb405, 0, none⟩) (Kd.V_mono HO396.out (fun k_ hk => (⟨hk, hk.2.2.2.2.2.2⟩ : _ ∧ k_ ≠ gb405))) (fun _ hk => hk.2) (.bool true)) (fun _ hk => hk.2) (.int .i64 t401)) (fun _ hk => hk.2) (.int .i64 t402)) (fun _ hk => hk.2) (.int .i64 t403)) (fun _ hk => ⟨hk.1.1, ⟨hk.1.2.1, ⟨hk.1.2.2.1, ⟨hk.1.2.2.2.1, ⟨hk.1.2.2.2.2.1, ⟨hk.1.2.2.2.2.2.1, hk.1.2.2.2.2.2.2⟩⟩⟩⟩⟩⟩)))⟩; replace HO399 : Aside0 (Kd.V k50 50 w146 w.heap.size (fun k_ => k_ ≠ gb369 ∧ k_ ≠ gb370 ∧ k_ ≠ gb371 ∧ k_ ≠ gb388 ∧ k_ ≠ gb389 ∧ k_ ≠ gb404 ∧ k_ ≠ gb405) (.slice Ao138 t397.length co138) t397) := ⟨(by rw [hw]; exact (by (with_reducible repeat (first | apply Kd.V_alloc | apply Kd.V_drewN | apply Kd.V_drew)); exact Kd.V_mono (Kd.V_far (p := ⟨gb405, 3, none⟩) (Kd.V_far (p := ⟨gb405, 2, none⟩) (Kd.V_far (p := ⟨gb405, 1, none⟩) (Kd.V_far (p := ⟨gb405, 0, none⟩) (Kd.V_mono HO399.out (fun k_ hk => (⟨hk, hk.2.2.2.2.2.2⟩ : _ ∧ k_ ≠ gb405))) (fun _ hk => hk.2) (.bool true)) (fun _ hk => hk.2) (.int .i64 t401)) (fun _ hk => hk.2) (.int .i64 t402)) (fun _ hk => hk.2) (.int .i64 t403)) (fun _ hk => ⟨hk.1.1, ⟨hk.1.2.1, ⟨hk.1.2.2.1, ⟨hk.1.2.2.2.1, ⟨hk.1.2.2.2.2.1, ⟨hk.1.2.2.2.2.2.1, hk.1.2.2.2.2.2.2⟩⟩⟩⟩⟩⟩)))⟩; replace BK369 : Aside0 (w146.heap[gb369]? = some (.cells #[.int .i64 a0_0, .int .i64 a0_1, .int .i64 a0_2, .int .i64 a0_3] 23 (0, 0))) := ⟨(by rw [hw]; exact (by (with_reducible repeat (first | refine blk_drewN ?_ _ | refine blk_drew ?_ | refine blk_alloc ?_ _)); refine blk_far ?_ NB369_405.out _; (with_reducible repeat (first | refine blk_drewN ?_ _ | refine blk_drew ?_ | refine blk_alloc ?_ _)); refine blk_far ?_ NB369_405.out _; (with_reducible repeat (first | refine blk_drewN ?_ _ | refine blk_drew ?_ | refine blk_alloc ?_ _)); refine blk_far ?_ NB369_405.out _; (with_reducible repeat (first | refine blk_drewN ?_ _ | refine blk_drew ?_ | refine blk_alloc ?_ _)); refine blk_far ?_ NB369_405.out _; (with_reducible repeat (first | refine blk_drewN ?_ _ | refine blk_drew ?_ | refine blk_alloc ?_ _)); exact BK369.out))⟩; replace BK370 : Aside0 (w146.heap[gb370]? = some (.cells #[.int .i64 a1_0, .int .i64 a1_1, .slice A1_2 l1_2.length c1_2, .slice A1_3 l1_3.length c1_3] 27 (0, 0))) := ⟨(by rw [hw]; exact (by (with_reducible repeat (first | refine blk_drewN ?_ _ | refine blk_drew ?_ | refine blk_alloc ?_ _)); refine blk_far ?_ NB370_405.out _; (with_reducible repeat (first | refine blk_drewN ?_ _ | refine blk_drew ?_ | refine blk_alloc ?_ _)); refine blk_far ?_ NB370_405.out _; (with_reducible repeat (first | refine blk_drewN ?_ _ | refine blk_drew ?_ | refine blk_alloc ?_ _)); refine blk_far ?_ NB370_405.out _; (with_reducible repeat (first | refine blk_drewN ?_ _ | refine blk_drew ?_ | refine blk_alloc ?_ _)); refine blk_far ?_ NB370_405.out _; (with_reducible repeat (first | refine blk_drewN ?_ _ | refine blk_drew ?_ | refine blk_alloc ?_ _)); exact BK370.out))⟩; replace BK371 : Aside0 (w146.heap[gb371]? = some (.cells #[.int .i64 a2_0, .int .i64 a2_1] 28 (0, 0))) := ⟨(by rw [hw]; exact (by (with_reducible repeat (first | refine blk_drewN ?_ _ | refine blk_drew ?_ | refine blk_alloc ?_ _)); refine blk_far ?_ NB371_405.out _; (with_reducible repeat (first | refine blk_drewN ?_ _ | refine blk_drew ?_ | refine blk_alloc ?_ _)); refine blk_far ?_ NB371_405.out _; (with_reducible repeat (first | refine blk_drewN ?_ _ | refine blk_drew ?_ | refine blk_alloc ?_ _)); refine blk_far ?_ NB371_405.out _; (with_reducible repeat (first | refine blk_drewN ?_ _ | refine blk_drew ?_ | refine blk_alloc ?_ _)); refine blk_far ?_ NB371_405.out _; (with_reducible repeat (first | refine blk_drewN ?_ _ | refine blk_drew ?_ | refine blk_alloc ?_ _)); exact BK371.out))⟩; replace BK388 : Aside0 (w146.heap[gb388]? = some (.cells #[.int .i64 t376, .int .i64 t377, .slice Ao81 t378.length co81, .slice Ao82 t381.length co82] 27 (0, 0))) := ⟨(by rw [hw]; exact (by (with_reducible repeat (first | refine blk_drewN ?_ _ | refine blk_drew ?_ | refine blk_alloc ?_ _)); refine blk_far ?_ NB388_405.out _; (with_reducible repeat (first | refine blk_drewN ?_ _ | refine blk_drew ?_ | refine blk_alloc ?_ _)); refine blk_far ?_ NB388_405.out _; (with_reducible repeat (first | refine blk_drewN ?_ _ | refine blk_drew ?_ | refine blk_alloc ?_ _)); refine blk_far ?_ NB388_405.out _; (with_reducible repeat (first | refine blk_drewN ?_ _ | refine blk_drew ?_ | refine blk_alloc ?_ _)); refine blk_far ?_ NB388_405.out _; (with_reducible repeat (first | refine blk_drewN ?_ _ | refine blk_drew ?_ | refine blk_alloc ?_ _)); exact BK388.out))⟩; replace BK389 : Aside0 (w146.heap[gb389]? = some (.cells #[.bool t384, .int .i64 t385, .int .i64 t386, .int .i64 t387] 32 (0, 0))) := ⟨(by rw [hw]; exact (by (with_reducible repeat (first | refine blk_drewN ?_ _ | refine blk_drew ?_ | refine blk_alloc ?_ _)); refine blk_far ?_ NB389_405.out _; (with_reducible repeat (first | refine blk_drewN ?_ _ | refine blk_drew ?_ | refine blk_alloc ?_ _)); refine blk_far ?_ NB389_405.out _; (with_reducible repeat (first | refine blk_drewN ?_ _ | refine blk_drew ?_ | refine blk_alloc ?_ _)); refine blk_far ?_ NB389_405.out _; (with_reducible repeat (first | refine blk_drewN ?_ _ | refine blk_drew ?_ | refine blk_alloc ?_ _)); refine blk_far ?_ NB389_405.out _; (with_reducible repeat (first | refine blk_drewN ?_ _ | refine blk_drew ?_ | refine blk_alloc ?_ _)); exact BK389.out))⟩; replace BK404 : Aside0 (w146.heap[gb404]? = some (.cells #[.int .i64 t392, .int .i64 t393, .slice Ao137 t394.length co137, .slice Ao138 t397.length co138] 27 (0, 0))) := ⟨(by rw [hw]; exact (by (with_reducible repeat (first | refine blk_drewN ?_ _ | refine blk_drew ?_ | refine blk_alloc ?_ _)); refine blk_far ?_ NB404_405.out _; (with_reducible repeat (first | refine blk_drewN ?_ _ | refine blk_drew ?_ | refine blk_alloc ?_ _)); refine blk_far ?_ NB404_405.out _; (with_reducible repeat (first | refine blk_drewN ?_ _ | refine blk_drew ?_ | refine blk_alloc ?_ _)); refine blk_far ?_ NB404_405.out _; (with_reducible repeat (first | refine blk_drewN ?_ _ | refine blk_drew ?_ | refine blk_alloc ?_ _)); refine blk_far ?_ NB404_405.out _; (with_reducible repeat (first | refine blk_drewN ?_ _ | refine blk_drew ?_ | refine blk_alloc ?_ _)); exact BK404.out))⟩; replace BK405 : Aside0 (w146.heap[gb405]? = some (.cells #[.bool true, .int .i64 t401, .int .i64 t402, .int .i64 t403] 32 (0, 0))) := ⟨(by rw [hw]; exact (by (with_reducible repeat (first | refine blk_drewN ?_ _ | refine blk_drew ?_ | refine blk_alloc ?_ _)); refine blk_put (cs := #[.bool true, .int .i64 t401, .int .i64 t402, .int .i64 0]) ?_ 3 _ rfl; (with_reducible repeat (first | refine blk_drewN ?_ _ | refine blk_drew ?_ | refine blk_alloc ?_ _)); refine blk_put (cs := #[.bool true, .int .i64 t401, .int .i64 0, .int .i64 0]) ?_ 2 _ rfl; (with_reducible repeat (first | refine blk_drewN ?_ _ | refine blk_drew ?_ | refine blk_alloc ?_ _)); refine blk_put (cs := #[.bool true, .int .i64 0, .int .i64 0, .int .i64 0]) ?_ 1 _ rfl; (with_reducible repeat (first | refine blk_drewN ?_ _ | refine blk_drew ?_ | refine blk_alloc ?_ _)); refine blk_put (cs := #[.bool false, .int .i64 0, .int .i64 0, .int .i64 0]) ?_ 0 _ rfl; (with_reducible repeat (first | refine blk_drewN ?_ _ | refine blk_drew ?_ | refine blk_alloc ?_ _)); exact BK405.out))⟩; replace HB : Aside0 (Below w.heap.size w w146) := ⟨(by rw [hw]; exact (bl HB))⟩; clear hw; obtain ⟨hcz147_0, hcz147_1, hcz147_2, hcz147_3⟩ := ce4 BK405; obtain ⟨hfz147_0, hfz147_1, hfz147_2, hfz147_3⟩ := fr4 BK405))
          go_meet
          case rel => exact ⟨_, H', ⟨by have := HJ3.out; have := HJ66.out; first | omega | exact Nat.le_refl _⟩, ⟨by (with_reducible repeat (first | apply Kd.V_alloc | apply Kd.V_drewN | apply Kd.V_drew)); exact Kd.V_mono HO_389002.out (fun _ hk => ⟨hk.1, ⟨hk.2.1, ⟨hk.2.2.1, ⟨hk.2.2.2.1, hk.2.2.2.2.1⟩⟩⟩⟩)⟩, ⟨by (with_reducible repeat (first | apply Kd.V_alloc | apply Kd.V_drewN | apply Kd.V_drew)); exact Kd.V_mono HO_389003.out (fun _ hk => ⟨hk.1, ⟨hk.2.1, ⟨hk.2.2.1, ⟨hk.2.2.2.1, hk.2.2.2.2.1⟩⟩⟩⟩)⟩, ⟨bo BK369⟩, ⟨bo BK370⟩, ⟨bo BK371⟩, ⟨bo BK388⟩, ⟨bo BK389⟩, ⟨bl HB⟩⟩
         ·replace c114 := Bool.eq_false_iff.mpr c114
          subst c114
          rw [if_neg (show ¬ (false = true) by decide)] at H
          exact absurd H (by simp)
        ·rw [if_neg c112] at H
         have c112b0 : decide (0 < t385) = false := decide_eq_false c112
         clear c112
         (first | rw [c112b0] | (simp only [i64_w, i32_w]; rw [c112b0]) | skip)
         have H' := Aside0.mk H
         clear H
         go_wp2
         go_meet
         case rel => exact ⟨_, H', ⟨by have := HJ3.out; have := HJ66.out; first | omega | exact Nat.le_refl _⟩, ⟨by (with_reducible repeat (first | apply Kd.V_alloc | apply Kd.V_drewN | apply Kd.V_drew)); exact HO_389002.out⟩, ⟨by (with_reducible repeat (first | apply Kd.V_alloc | apply Kd.V_drewN | apply Kd.V_drew)); exact HO_389003.out⟩, ⟨bo BK369⟩, ⟨bo BK370⟩, ⟨bo BK371⟩, ⟨bo BK388⟩, ⟨bo BK389⟩, ⟨bl HB⟩⟩
       case rest =>
        as_aux_lemma =>
        clear HC106
        try clear c10; try clear c12; try clear c13; try clear c90; try clear c92; try clear c92b0; try clear c92b1; try clear c105; try clear c112; try clear c112b0; try clear c114; try clear hcz111_0; try clear hcz111_1; try clear hcz111_2; try clear hcz111_3; try clear hcz119_0; try clear hcz119_1; try clear hcz119_2; try clear hcz119_3; try clear hcz123_0; try clear hcz123_1; try clear hcz123_2; try clear hcz123_3; try clear hcz126_0; try clear hcz126_1; try clear hcz126_2; try clear hcz126_3; try clear hcz136_0; try clear hcz136_1; try clear hcz136_2; try clear hcz136_3; try clear hcz145_0; try clear hcz145_1; try clear hcz145_2; try clear hcz145_3; try clear hcz147_0; try clear hcz147_1; try clear hcz147_2; try clear hcz147_3; try clear hfz111_0; try clear hfz111_1; try clear hfz111_2; try clear hfz111_3; try clear hfz119_0; try clear hfz119_1; try clear hfz119_2; try clear hfz119_3; try clear hfz123_0; try clear hfz123_1; try clear hfz123_2; try clear hfz123_3; try clear hfz126_0; try clear hfz126_1; try clear hfz126_2; try clear hfz126_3; try clear hfz136_0; try clear hfz136_1; try clear hfz136_2; try clear hfz136_3; try clear hfz145_0; try clear hfz145_1; try clear hfz145_2; try clear hfz145_3; try clear hfz147_0; try clear hfz147_1; try clear hfz147_2; try clear hfz147_3
        obtain ⟨kq, HA, HJ105, HO_389002, HO_389003, BK369, BK370, BK371, BK388, BK389, HB⟩ := hcut
        cases kq with
        | zero => exact absurd HA.out (by simp [sandglasslaw13_ExactMay.j2])
        | succ kj105 =>
         have H := HA.out
         clear HA
         simp only [sandglasslaw13_ExactMay.j2] at H
         have HC148 := Aside0.mk H
         clear H
         go_upto_region 11 with (fail)
         go_cut [140] (fun v140 wc => ∃ (kq : Nat) (x140_147 : Bool), v140 = .bool x140_147 ∧ Aside0 (sandglasslaw13_ExactMay.j3 kq a2_1 x140_147 a0_0 a0_1 a0_2 a0_3 t376 t377 t378 t381 t384 t385 t386 t387 = some r) ∧ Aside0 (kq ≤ kj105) ∧ Aside0 (Kd.V (Kd.int .i64) 3 wc w.heap.size (fun k_ => k_ ≠ gb369 ∧ k_ ≠ gb370 ∧ k_ ≠ gb371 ∧ k_ ≠ gb388 ∧ k_ ≠ gb389) (.slice Ao81 t378.length co81) t378) ∧ Aside0 (Kd.V k50 50 wc w.heap.size (fun k_ => k_ ≠ gb369 ∧ k_ ≠ gb370 ∧ k_ ≠ gb371 ∧ k_ ≠ gb388 ∧ k_ ≠ gb389) (.slice Ao82 t381.length co82) t381) ∧ Aside0 (wc.heap[gb369]? = some (.cells #[.int .i64 a0_0, .int .i64 a0_1, .int .i64 a0_2, .int .i64 a0_3] 23 (0, 0))) ∧ Aside0 (wc.heap[gb370]? = some (.cells #[.int .i64 a1_0, .int .i64 a1_1, (.slice A1_2 l1_2.length c1_2), (.slice A1_3 l1_3.length c1_3)] 27 (0, 0))) ∧ Aside0 (wc.heap[gb371]? = some (.cells #[.int .i64 a2_0, .int .i64 a2_1] 28 (0, 0))) ∧ Aside0 (wc.heap[gb388]? = some (.cells #[.int .i64 t376, .int .i64 t377, (.slice Ao81 t378.length co81), (.slice Ao82 t381.length co82)] 27 (0, 0))) ∧ Aside0 (wc.heap[gb389]? = some (.cells #[.bool t384, .int .i64 t385, .int .i64 t386, .int .i64 t387] 32 (0, 0))) ∧ Aside0 (Below w.heap.size w wc))
         case first =>
          as_aux_lemma =>
          have H := HC148.out
          clear HC148
          replace H := Option.bind_eq_some_iff.mp H
          obtain ⟨t406, A1490, H⟩ := H
          have A149 := Aside0.mk A1490
          clear A1490
          by_cases c150 : t406 = 0
          ·rw [if_pos c150] at H
           have c150b0 : (t406 == 0) = true := beq_iff_eq.mpr c150
           have c150b1 : (t406 != 0) = false := bne_eq_false_iff_eq.mpr c150
           clear c150
           (first | rw [c150b0] | (simp only [i64_w, i32_w]; rw [c150b0]) | skip)
           by_cases c151 : t387 > 0
           ·rw [if_pos c151] at H
            have c151b0 : decide (0 < t387) = true := decide_eq_true c151
            clear c151
            replace H := Option.bind_eq_some_iff.mp H
            obtain ⟨t407, A1520, H⟩ := H
            have A152 := Aside0.mk A1520
            clear A1520
            by_cases c153 : t407 = 0
            ·rw [if_pos c153] at H
             have c153b0 : (t407 == 0) = true := beq_iff_eq.mpr c153
             have c153b1 : (t407 != 0) = false := bne_eq_false_iff_eq.mpr c153
             clear c153
             have H' := Aside0.mk H
             clear H
             try go_wp2
             replace HO_389002 := Aside0.mk (Kd.V_drew HO_389002.out)
             replace HO_389003 := Aside0.mk (Kd.V_drew HO_389003.out)
             replace BK369 := Aside0.mk (blk_drew BK369.out)
             replace BK370 := Aside0.mk (blk_drew BK370.out)
             replace BK371 := Aside0.mk (blk_drew BK371.out)
             replace BK388 := Aside0.mk (blk_drew BK388.out)
             replace BK389 := Aside0.mk (blk_drew BK389.out)
             replace HB := Aside0.mk (below_drew1 HB.out)
             refine start_ (n := 37) (S := fun w' => w'.cell? ⟨gb369, 0, none⟩ = some (.int .i64 a0_0) ∧ w'.cell? ⟨gb369, 1, none⟩ = some (.int .i64 a0_1) ∧ w'.cell? ⟨gb369, 2, none⟩ = some (.int .i64 a0_2) ∧ w'.cell? ⟨gb369, 3, none⟩ = some (.int .i64 a0_3) ∧ w'.cell? ⟨gb388, 0, none⟩ = some (.int .i64 t376) ∧ w'.cell? ⟨gb388, 1, none⟩ = some (.int .i64 t377) ∧ w'.cell? ⟨gb388, 2, none⟩ = some (.slice Ao81 t378.length co81) ∧ w'.cell? ⟨gb388, 3, none⟩ = some (.slice Ao82 t381.length co82) ∧ w'.cell? ⟨gb389, 0, none⟩ = some (.bool t384) ∧ w'.cell? ⟨gb389, 1, none⟩ = some (.int .i64 t385) ∧ w'.cell? ⟨gb389, 2, none⟩ = some (.int .i64 t386) ∧ w'.cell? ⟨gb389, 3, none⟩ = some (.int .i64 t387)) (ds := []) #[false, false, false, false, false, false, false, false, false, false, false, false, false, false, false, false, false, false, false, false, false, false, false, false, false, false, false, false, false, false, false, false, false, false, false, false, false] (by kernel_rfl) rfl rfl ⟨(blk_cell BK369.out 0).trans rfl, (blk_cell BK369.out 1).trans rfl, (blk_cell BK369.out 2).trans rfl, (blk_cell BK369.out 3).trans rfl, (blk_cell BK388.out 0).trans rfl, (blk_cell BK388.out 1).trans rfl, (blk_cell BK388.out 2).trans rfl, (blk_cell BK388.out 3).trans rfl, (blk_cell BK389.out 0).trans rfl, (blk_cell BK389.out 1).trans rfl, (blk_cell BK389.out 2).trans rfl, (blk_cell BK389.out 3).trans rfl⟩ (fun hHeld => ?_); refine with_tabW sandglasslaw13_ExactMay.tab11 sandglasslaw13_ExactMay.bits11 (fun HT_ HW_ => ?_)
             generalize wc.drew = w154 at HO_389002 HO_389003 BK369 BK370 BK371 BK388 BK389 HB hHeld ⊢
             refine pureA 2 106 HT_ ?_
             refine pureA 4 108 HT_ ?_
             refine takeA 0 104 HT_ HW_ hHeld ?_
             refine takeA 1 105 HT_ HW_ hHeld ?_
             refine takeA 3 107 HT_ HW_ hHeld ?_
             refine takeA 5 109 HT_ HW_ hHeld ?_
             refine pureA 6 110 HT_ ?_
             refine one_ (i := 7) (N := some 111) #[true, true, true, true, true, true, true, true, false, false, false, false, false, false, false, false, false, false, false, false, false, false, false, false, false, false, false, false, false, false, false, false, false, false, false, false, false] rfl rfl (one_of HT_.out (by kernel_rfl)) (by decide) (fun K hK => ?_)
             refine goes_ Try.func15 (by kernel_rfl) rfl #[.agg #[.int .i64 a0_0, .int .i64 a0_1, .int .i64 a0_2, .int .i64 a0_3], .agg #[.int .i64 t376, .int .i64 t377, .slice Ao81 t378.length co81, .slice Ao82 t381.length co82], .int .i64 (wrap64 (t376 + t387))] (by rfl) rfl rfl (by (try simp only [List.map_toArray, List.map_cons, List.map_nil]); first | done | rfl | (simp only [List.length_drop, List.length_take]; rfl)) ?_
             with_reducible refine (exact_Total.calls kj105 a0_0 a0_1 a0_2 a0_3 t376 t377 _ _ t378 _ _ t381 (wrap64 (t376 + t387)) t406 _ ?side1 ?side2 ?side3 ?side4 A149.out).mono ?_
             (case side1 => repeat (first | exact (Kd.V_reads' HO_389002.out).2.2 | (with_reducible refine Kd.C_alloc ?_ _) | (with_reducible refine Kd.C_drewN ?_ _) | (with_reducible refine Kd.C_drew ?_)))
             (case side2 => exact (Kd.V_reads' HO_389002.out).2.1)
             (case side3 => repeat (first | exact (Kd.V_reads' HO_389003.out).2.2 | (with_reducible refine Kd.C_alloc ?_ _) | (with_reducible refine Kd.C_drewN ?_ _) | (with_reducible refine Kd.C_drew ?_)))
             (case side4 => exact (Kd.V_reads' HO_389003.out).2.1)
             rintro e w155 ⟨rfl, hb⟩
             refine ⟨_, rfl, ?_⟩
             replace HO_389002 := vb HO_389002 hb
             replace HO_389003 := vb HO_389003 hb
             replace BK369 := Aside0.mk (blk_below (bo BK369) hb)
             replace BK370 := Aside0.mk (blk_below (bo BK370) hb)
             replace BK371 := Aside0.mk (blk_below (bo BK371) hb)
             replace BK388 := Aside0.mk (blk_below (bo BK388) hb)
             replace BK389 := Aside0.mk (blk_below (bo BK389) hb)
             replace HB := Aside0.mk (below_step (bl HB) hb)
             (try clear hb)
             (try clear hb2)
             (try clear hk)
             (try clear hi)
             refine hK.out _ _ ⟨(blk_cell BK369.out 0).trans rfl, (blk_cell BK369.out 1).trans rfl, (blk_cell BK369.out 2).trans rfl, (blk_cell BK369.out 3).trans rfl, (blk_cell BK388.out 0).trans rfl, (blk_cell BK388.out 1).trans rfl, (blk_cell BK388.out 2).trans rfl, (blk_cell BK388.out 3).trans rfl, (blk_cell BK389.out 0).trans rfl, (blk_cell BK389.out 1).trans rfl, (blk_cell BK389.out 2).trans rfl, (blk_cell BK389.out 3).trans rfl⟩ (fun hHeld => ?_)
             clear hK K
             refine norm_ (a' := ?_) ?_ ?_
             rotate_left
             ·show Act.put _ (some 111) _ = _
              simp only [Act.put, List.setIfInBounds_toArray, List.set_cons_zero, List.set_cons_succ, i64_w, i32_w]
              rfl
             refine pureA 8 112 HT_ ?_
             refine pureA 9 113 HT_ ?_
             refine pureA 10 114 HT_ ?_
             refine takeA 11 115 HT_ HW_ hHeld ?_
             refine pureA 12 116 HT_ ?_
             refine pureA 13 117 HT_ ?_
             refine pureA 16 120 HT_ ?_
             refine pureA 18 122 HT_ ?_
             refine takeA 14 118 HT_ HW_ hHeld ?_
             refine takeA 15 119 HT_ HW_ hHeld ?_
             refine takeA 17 121 HT_ HW_ hHeld ?_
             refine takeA 19 123 HT_ HW_ hHeld ?_
             refine pureA 20 124 HT_ ?_
             refine pureA 21 125 HT_ ?_
             refine one_ (i := 22) (N := some 126) #[true, true, true, true, true, true, true, true, true, true, true, true, true, true, true, true, true, true, true, true, true, true, true, false, false, false, false, false, false, false, false, false, false, false, false, false, false] rfl rfl (one_of HT_.out (by kernel_rfl)) (by decide) (fun K hK => ?_)
             refine goes_ Try.func15 (by kernel_rfl) rfl #[.agg #[.int .i64 a0_0, .int .i64 a0_1, .int .i64 a0_2, .int .i64 a0_3], .agg #[.int .i64 t376, .int .i64 t377, .slice Ao81 t378.length co81, .slice Ao82 t381.length co82], .int .i64 (wrap64 ((wrap64 (t376 + t387)) - 1))] (by rfl) rfl rfl (by (try simp only [List.map_toArray, List.map_cons, List.map_nil]); first | done | rfl | (simp only [List.length_drop, List.length_take]; rfl)) ?_
             with_reducible refine (exact_Total.calls kj105 a0_0 a0_1 a0_2 a0_3 t376 t377 _ _ t378 _ _ t381 (wrap64 ((wrap64 (t376 + t387)) - 1)) t407 _ ?side1 ?side2 ?side3 ?side4 A152.out).mono ?_
             (case side1 => repeat (first | exact (Kd.V_reads' HO_389002.out).2.2 | (with_reducible refine Kd.C_alloc ?_ _) | (with_reducible refine Kd.C_drewN ?_ _) | (with_reducible refine Kd.C_drew ?_)))
             (case side2 => exact (Kd.V_reads' HO_389002.out).2.1)
             (case side3 => repeat (first | exact (Kd.V_reads' HO_389003.out).2.2 | (with_reducible refine Kd.C_alloc ?_ _) | (with_reducible refine Kd.C_drewN ?_ _) | (with_reducible refine Kd.C_drew ?_)))
             (case side4 => exact (Kd.V_reads' HO_389003.out).2.1)
             rintro e w156 ⟨rfl, hb⟩
             refine ⟨_, rfl, ?_⟩
             replace HO_389002 := vb HO_389002 hb
             replace HO_389003 := vb HO_389003 hb
             replace BK369 := Aside0.mk (blk_below (bo BK369) hb)
             replace BK370 := Aside0.mk (blk_below (bo BK370) hb)
             replace BK371 := Aside0.mk (blk_below (bo BK371) hb)
             replace BK388 := Aside0.mk (blk_below (bo BK388) hb)
             replace BK389 := Aside0.mk (blk_below (bo BK389) hb)
             replace HB := Aside0.mk (below_step (bl HB) hb)
             (try clear hb)
             (try clear hb2)
             (try clear hk)
             (try clear hi)
             refine hK.out _ _ ⟨(blk_cell BK369.out 0).trans rfl, (blk_cell BK369.out 1).trans rfl, (blk_cell BK369.out 2).trans rfl, (blk_cell BK369.out 3).trans rfl, (blk_cell BK388.out 0).trans rfl, (blk_cell BK388.out 1).trans rfl, (blk_cell BK388.out 2).trans rfl, (blk_cell BK388.out 3).trans rfl, (blk_cell BK389.out 0).trans rfl, (blk_cell BK389.out 1).trans rfl, (blk_cell BK389.out 2).trans rfl, (blk_cell BK389.out 3).trans rfl⟩ (fun hHeld => ?_)
             clear hK K
             refine norm_ (a' := ?_) ?_ ?_
             rotate_left
             ·show Act.put _ (some 126) _ = _
              simp only [Act.put, List.setIfInBounds_toArray, List.set_cons_zero, List.set_cons_succ, i64_w, i32_w]
              rfl
             refine pureA 23 127 HT_ ?_
             refine pureA 24 128 HT_ ?_
             refine pureA 25 129 HT_ ?_
             refine pureA 26 130 HT_ ?_
             refine pure_ (i := 27) (N := some 131) (v := undef) (a' := ?_) #[true, true, true, true, true, true, true, true, true, true, true, true, true, true, true, true, true, true, true, true, true, true, true, true, true, true, true, true, false, false, false, false, false, false, false, false, false] rfl rfl (any_of HT_.out (by kernel_rfl)) (fun _ _ _ h => h) (Or.inr ⟨by rfl, rfl⟩) ?_ ?_
             rotate_left
             ·simp only [Act.put, List.setIfInBounds_toArray, List.set_cons_zero, List.set_cons_succ, i64_w, i32_w]
              rfl
             refine pure_ (i := 28) (N := some 132) (v := undef) (a' := ?_) #[true, true, true, true, true, true, true, true, true, true, true, true, true, true, true, true, true, true, true, true, true, true, true, true, true, true, true, true, true, false, false, false, false, false, false, false, false] rfl rfl (any_of HT_.out (by kernel_rfl)) (fun _ _ _ h => h) (Or.inr ⟨by rfl, rfl⟩) ?_ ?_
             rotate_left
             ·simp only [Act.put, List.setIfInBounds_toArray, List.set_cons_zero, List.set_cons_succ, i64_w, i32_w]
              rfl
             refine pure_ (i := 29) (N := some 133) (v := undef) (a' := ?_) #[true, true, true, true, true, true, true, true, true, true, true, true, true, true, true, true, true, true, true, true, true, true, true, true, true, true, true, true, true, true, false, false, false, false, false, false, false] rfl rfl (any_of HT_.out (by kernel_rfl)) (fun _ _ _ h => h) (Or.inr ⟨by rfl, rfl⟩) ?_ ?_
             rotate_left
             ·simp only [Act.put, List.setIfInBounds_toArray, List.set_cons_zero, List.set_cons_succ, i64_w, i32_w]
              rfl
             refine pure_ (i := 30) (N := some 134) (v := undef) (a' := ?_) #[true, true, true, true, true, true, true, true, true, true, true, true, true, true, true, true, true, true, true, true, true, true, true, true, true, true, true, true, true, true, true, false, false, false, false, false, false] rfl rfl (any_of HT_.out (by kernel_rfl)) (fun _ _ _ h => h) (Or.inr ⟨by rfl, rfl⟩) ?_ ?_
             rotate_left
             ·simp only [Act.put, List.setIfInBounds_toArray, List.set_cons_zero, List.set_cons_succ, i64_w, i32_w]
              rfl
             refine pure_ (i := 31) (N := some 135) (v := undef) (a' := ?_) #[true, true, true, true, true, true, true, true, true, true, true, true, true, true, true, true, true, true, true, true, true, true, true, true, true, true, true, true, true, true, true, true, false, false, false, false, false] rfl rfl (any_of HT_.out (by kernel_rfl)) (fun _ _ _ h => h) (Or.inr ⟨by rfl, rfl⟩) ?_ ?_
             rotate_left
             ·simp only [Act.put, List.setIfInBounds_toArray, List.set_cons_zero, List.set_cons_succ, i64_w, i32_w]
              rfl
             refine pure_ (i := 32) (N := some 136) (v := undef) (a' := ?_) #[true, true, true, true, true, true, true, true, true, true, true, true, true, true, true, true, true, true, true, true, true, true, true, true, true, true, true, true, true, true, true, true, true, false, false, false, false] rfl rfl (any_of HT_.out (by kernel_rfl)) (fun _ _ _ h => h) (Or.inr ⟨by rfl, rfl⟩) ?_ ?_
             rotate_left
             ·simp only [Act.put, List.setIfInBounds_toArray, List.set_cons_zero, List.set_cons_succ, i64_w, i32_w]
              rfl
             refine pure_ (i := 33) (N := some 137) (v := undef) (a' := ?_) #[true, true, true, true, true, true, true, true, true, true, true, true, true, true, true, true, true, true, true, true, true, true, true, true, true, true, true, true, true, true, true, true, true, true, false, false, false] rfl rfl (any_of HT_.out (by kernel_rfl)) (fun _ _ _ h => h) (Or.inr ⟨by rfl, rfl⟩) ?_ ?_
             rotate_left
             ·simp only [Act.put, List.setIfInBounds_toArray, List.set_cons_zero, List.set_cons_succ, i64_w, i32_w]
              rfl
             refine pure_ (i := 34) (N := some 138) (v := undef) (a' := ?_) #[true, true, true, true, true, true, true, true, true, true, true, true, true, true, true, true, true, true, true, true, true, true, true, true, true, true, true, true, true, true, true, true, true, true, true, false, false] rfl rfl (any_of HT_.out (by kernel_rfl)) (fun _ _ _ h => h) (Or.inr ⟨by rfl, rfl⟩) ?_ ?_
             rotate_left
             ·simp only [Act.put, List.setIfInBounds_toArray, List.set_cons_zero, List.set_cons_succ, i64_w, i32_w]
              rfl
             refine pure_ (i := 35) (N := some 139) (v := undef) (a' := ?_) #[true, true, true, true, true, true, true, true, true, true, true, true, true, true, true, true, true, true, true, true, true, true, true, true, true, true, true, true, true, true, true, true, true, true, true, true, false] rfl rfl (any_of HT_.out (by kernel_rfl)) (fun _ _ _ h => h) (Or.inr ⟨by rfl, rfl⟩) ?_ ?_
             rotate_left
             ·simp only [Act.put, List.setIfInBounds_toArray, List.set_cons_zero, List.set_cons_succ, i64_w, i32_w]
              rfl
             refine pureA 36 140 HT_ ?_
             refine done_ (done_of HT_.out (by kernel_rfl)) ?_
             try go_wp2
             go_meet
             case rel => exact ⟨_, (true), (by first | (with_reducible rfl) | rfl | (simp; done) | (simp [*]; done)), H', ⟨by have := HJ3.out; have := HJ66.out; have := HJ105.out; first | omega | exact Nat.le_refl _⟩, ⟨by (with_reducible repeat (first | apply Kd.V_alloc | apply Kd.V_drewN | apply Kd.V_drew)); exact HO_389002.out⟩, ⟨by (with_reducible repeat (first | apply Kd.V_alloc | apply Kd.V_drewN | apply Kd.V_drew)); exact HO_389003.out⟩, ⟨bo BK369⟩, ⟨bo BK370⟩, ⟨bo BK371⟩, ⟨bo BK388⟩, ⟨bo BK389⟩, ⟨bl HB⟩⟩
            ·rw [if_neg c153] at H
             have c153b0 : (t407 == 0) = false := beq_eq_false_iff_ne.mpr c153
             have c153b1 : (t407 != 0) = true := bne_iff_ne.mpr c153
             replace H := Option.bind_eq_some_iff.mp H
             obtain ⟨t408, A1570, H⟩ := H
             have A157 := Aside0.mk A1570
             clear A1570
             have H' := Aside0.mk H
             clear H
             try go_wp2
             replace HO_389002 := Aside0.mk (Kd.V_drew HO_389002.out)
             replace HO_389003 := Aside0.mk (Kd.V_drew HO_389003.out)
             replace BK369 := Aside0.mk (blk_drew BK369.out)
             replace BK370 := Aside0.mk (blk_drew BK370.out)
             replace BK371 := Aside0.mk (blk_drew BK371.out)
             replace BK388 := Aside0.mk (blk_drew BK388.out)
             replace BK389 := Aside0.mk (blk_drew BK389.out)
             replace HB := Aside0.mk (below_drew1 HB.out)
             refine start_ (n := 37) (S := fun w' => w'.cell? ⟨gb369, 0, none⟩ = some (.int .i64 a0_0) ∧ w'.cell? ⟨gb369, 1, none⟩ = some (.int .i64 a0_1) ∧ w'.cell? ⟨gb369, 2, none⟩ = some (.int .i64 a0_2) ∧ w'.cell? ⟨gb369, 3, none⟩ = some (.int .i64 a0_3) ∧ w'.cell? ⟨gb388, 0, none⟩ = some (.int .i64 t376) ∧ w'.cell? ⟨gb388, 1, none⟩ = some (.int .i64 t377) ∧ w'.cell? ⟨gb388, 2, none⟩ = some (.slice Ao81 t378.length co81) ∧ w'.cell? ⟨gb388, 3, none⟩ = some (.slice Ao82 t381.length co82) ∧ w'.cell? ⟨gb389, 0, none⟩ = some (.bool t384) ∧ w'.cell? ⟨gb389, 1, none⟩ = some (.int .i64 t385) ∧ w'.cell? ⟨gb389, 2, none⟩ = some (.int .i64 t386) ∧ w'.cell? ⟨gb389, 3, none⟩ = some (.int .i64 t387)) (ds := []) #[false, false, false, false, false, false, false, false, false, false, false, false, false, false, false, false, false, false, false, false, false, false, false, false, false, false, false, false, false, false, false, false, false, false, false, false, false] (by kernel_rfl) rfl rfl ⟨(blk_cell BK369.out 0).trans rfl, (blk_cell BK369.out 1).trans rfl, (blk_cell BK369.out 2).trans rfl, (blk_cell BK369.out 3).trans rfl, (blk_cell BK388.out 0).trans rfl, (blk_cell BK388.out 1).trans rfl, (blk_cell BK388.out 2).trans rfl, (blk_cell BK388.out 3).trans rfl, (blk_cell BK389.out 0).trans rfl, (blk_cell BK389.out 1).trans rfl, (blk_cell BK389.out 2).trans rfl, (blk_cell BK389.out 3).trans rfl⟩ (fun hHeld => ?_); refine with_tabW sandglasslaw13_ExactMay.tab11 sandglasslaw13_ExactMay.bits11 (fun HT_ HW_ => ?_)
             generalize wc.drew = w158 at HO_389002 HO_389003 BK369 BK370 BK371 BK388 BK389 HB hHeld ⊢
             refine pureA 2 106 HT_ ?_
             refine pureA 4 108 HT_ ?_
             refine takeA 0 104 HT_ HW_ hHeld ?_
             refine takeA 1 105 HT_ HW_ hHeld ?_
             refine takeA 3 107 HT_ HW_ hHeld ?_
             refine takeA 5 109 HT_ HW_ hHeld ?_
             refine pureA 6 110 HT_ ?_
             refine one_ (i := 7) (N := some 111) #[true, true, true, true, true, true, true, true, false, false, false, false, false, false, false, false, false, false, false, false, false, false, false, false, false, false, false, false, false, false, false, false, false, false, false, false, false] rfl rfl (one_of HT_.out (by kernel_rfl)) (by decide) (fun K hK => ?_)
             refine goes_ Try.func15 (by kernel_rfl) rfl #[.agg #[.int .i64 a0_0, .int .i64 a0_1, .int .i64 a0_2, .int .i64 a0_3], .agg #[.int .i64 t376, .int .i64 t377, .slice Ao81 t378.length co81, .slice Ao82 t381.length co82], .int .i64 (wrap64 (t376 + t387))] (by rfl) rfl rfl (by (try simp only [List.map_toArray, List.map_cons, List.map_nil]); first | done | rfl | (simp only [List.length_drop, List.length_take]; rfl)) ?_
             with_reducible refine (exact_Total.calls kj105 a0_0 a0_1 a0_2 a0_3 t376 t377 _ _ t378 _ _ t381 (wrap64 (t376 + t387)) t406 _ ?side1 ?side2 ?side3 ?side4 A149.out).mono ?_
             (case side1 => repeat (first | exact (Kd.V_reads' HO_389002.out).2.2 | (with_reducible refine Kd.C_alloc ?_ _) | (with_reducible refine Kd.C_drewN ?_ _) | (with_reducible refine Kd.C_drew ?_)))
             (case side2 => exact (Kd.V_reads' HO_389002.out).2.1)
             (case side3 => repeat (first | exact (Kd.V_reads' HO_389003.out).2.2 | (with_reducible refine Kd.C_alloc ?_ _) | (with_reducible refine Kd.C_drewN ?_ _) | (with_reducible refine Kd.C_drew ?_)))
             (case side4 => exact (Kd.V_reads' HO_389003.out).2.1)
             rintro e w159 ⟨rfl, hb⟩
             refine ⟨_, rfl, ?_⟩
             replace HO_389002 := vb HO_389002 hb
             replace HO_389003 := vb HO_389003 hb
             replace BK369 := Aside0.mk (blk_below (bo BK369) hb)
             replace BK370 := Aside0.mk (blk_below (bo BK370) hb)
             replace BK371 := Aside0.mk (blk_below (bo BK371) hb)
             replace BK388 := Aside0.mk (blk_below (bo BK388) hb)
             replace BK389 := Aside0.mk (blk_below (bo BK389) hb)
             replace HB := Aside0.mk (below_step (bl HB) hb)
             (try clear hb)
             (try clear hb2)
             (try clear hk)
             (try clear hi)
             refine hK.out _ _ ⟨(blk_cell BK369.out 0).trans rfl, (blk_cell BK369.out 1).trans rfl, (blk_cell BK369.out 2).trans rfl, (blk_cell BK369.out 3).trans rfl, (blk_cell BK388.out 0).trans rfl, (blk_cell BK388.out 1).trans rfl, (blk_cell BK388.out 2).trans rfl, (blk_cell BK388.out 3).trans rfl, (blk_cell BK389.out 0).trans rfl, (blk_cell BK389.out 1).trans rfl, (blk_cell BK389.out 2).trans rfl, (blk_cell BK389.out 3).trans rfl⟩ (fun hHeld => ?_)
             clear hK K
             refine norm_ (a' := ?_) ?_ ?_
             rotate_left
             ·show Act.put _ (some 111) _ = _
              simp only [Act.put, List.setIfInBounds_toArray, List.set_cons_zero, List.set_cons_succ, i64_w, i32_w]
              rfl
             refine pureA 8 112 HT_ ?_
             refine pureA 9 113 HT_ ?_
             refine pureA 10 114 HT_ ?_
             refine takeA 11 115 HT_ HW_ hHeld ?_
             refine pureA 12 116 HT_ ?_
             refine pureA 13 117 HT_ ?_
             refine pureA 16 120 HT_ ?_
             refine pureA 18 122 HT_ ?_
             refine takeA 14 118 HT_ HW_ hHeld ?_
             refine takeA 15 119 HT_ HW_ hHeld ?_
             refine takeA 17 121 HT_ HW_ hHeld ?_
             refine takeA 19 123 HT_ HW_ hHeld ?_
             refine pureA 20 124 HT_ ?_
             refine pureA 21 125 HT_ ?_
             refine one_ (i := 22) (N := some 126) #[true, true, true, true, true, true, true, true, true, true, true, true, true, true, true, true, true, true, true, true, true, true, true, false, false, false, false, false, false, false, false, false, false, false, false, false, false] rfl rfl (one_of HT_.out (by kernel_rfl)) (by decide) (fun K hK => ?_)
             refine goes_ Try.func15 (by kernel_rfl) rfl #[.agg #[.int .i64 a0_0, .int .i64 a0_1, .int .i64 a0_2, .int .i64 a0_3], .agg #[.int .i64 t376, .int .i64 t377, .slice Ao81 t378.length co81, .slice Ao82 t381.length co82], .int .i64 (wrap64 ((wrap64 (t376 + t387)) - 1))] (by rfl) rfl rfl (by (try simp only [List.map_toArray, List.map_cons, List.map_nil]); first | done | rfl | (simp only [List.length_drop, List.length_take]; rfl)) ?_
             with_reducible refine (exact_Total.calls kj105 a0_0 a0_1 a0_2 a0_3 t376 t377 _ _ t378 _ _ t381 (wrap64 ((wrap64 (t376 + t387)) - 1)) t407 _ ?side1 ?side2 ?side3 ?side4 A152.out).mono ?_
             (case side1 => repeat (first | exact (Kd.V_reads' HO_389002.out).2.2 | (with_reducible refine Kd.C_alloc ?_ _) | (with_reducible refine Kd.C_drewN ?_ _) | (with_reducible refine Kd.C_drew ?_)))
             (case side2 => exact (Kd.V_reads' HO_389002.out).2.1)
             (case side3 => repeat (first | exact (Kd.V_reads' HO_389003.out).2.2 | (with_reducible refine Kd.C_alloc ?_ _) | (with_reducible refine Kd.C_drewN ?_ _) | (with_reducible refine Kd.C_drew ?_)))
             (case side4 => exact (Kd.V_reads' HO_389003.out).2.1)
             rintro e w160 ⟨rfl, hb⟩
             refine ⟨_, rfl, ?_⟩
             replace HO_389002 := vb HO_389002 hb
             replace HO_389003 := vb HO_389003 hb
             replace BK369 := Aside0.mk (blk_below (bo BK369) hb)
             replace BK370 := Aside0.mk (blk_below (bo BK370) hb)
             replace BK371 := Aside0.mk (blk_below (bo BK371) hb)
             replace BK388 := Aside0.mk (blk_below (bo BK388) hb)
             replace BK389 := Aside0.mk (blk_below (bo BK389) hb)
             replace HB := Aside0.mk (below_step (bl HB) hb)
             (try clear hb)
             (try clear hb2)
             (try clear hk)
             (try clear hi)
             refine hK.out _ _ ⟨(blk_cell BK369.out 0).trans rfl, (blk_cell BK369.out 1).trans rfl, (blk_cell BK369.out 2).trans rfl, (blk_cell BK369.out 3).trans rfl, (blk_cell BK388.out 0).trans rfl, (blk_cell BK388.out 1).trans rfl, (blk_cell BK388.out 2).trans rfl, (blk_cell BK388.out 3).trans rfl, (blk_cell BK389.out 0).trans rfl, (blk_cell BK389.out 1).trans rfl, (blk_cell BK389.out 2).trans rfl, (blk_cell BK389.out 3).trans rfl⟩ (fun hHeld => ?_)
             clear hK K
             refine norm_ (a' := ?_) ?_ ?_
             rotate_left
             ·show Act.put _ (some 126) _ = _
              simp only [Act.put, List.setIfInBounds_toArray, List.set_cons_zero, List.set_cons_succ, i64_w, i32_w]
              rfl
             refine pureA 23 127 HT_ ?_
             refine pureA 24 128 HT_ ?_
             refine pureA 25 129 HT_ ?_
             refine pureA 26 130 HT_ ?_
             refine pureA 30 134 HT_ ?_
             refine pureA 32 136 HT_ ?_
             refine takeA 27 131 HT_ HW_ hHeld ?_
             refine takeA 28 132 HT_ HW_ hHeld ?_
             refine takeA 31 135 HT_ HW_ hHeld ?_
             refine takeA 33 137 HT_ HW_ hHeld ?_
             refine pureA 34 138 HT_ ?_
             refine one_ (i := 29) (N := some 133) #[true, true, true, true, true, true, true, true, true, true, true, true, true, true, true, true, true, true, true, true, true, true, true, true, true, true, true, true, true, true, true, true, true, true, true, false, false] rfl rfl (one_of HT_.out (by kernel_rfl)) (by decide) (fun K hK => ?_)
             refine goes_ Try.func17 (by kernel_rfl) rfl #[.agg #[.int .i64 a0_0, .int .i64 a0_1, .int .i64 a0_2, .int .i64 a0_3], .agg #[.int .i64 t376, .int .i64 t377, .slice Ao81 t378.length co81, .slice Ao82 t381.length co82]] (by rfl) rfl rfl (by (try simp only [List.map_toArray, List.map_cons, List.map_nil]); first | done | rfl | (simp only [List.length_drop, List.length_take]; rfl)) ?_
             with_reducible refine (exact_Ends.calls kj105 a0_0 a0_1 a0_2 a0_3 t376 t377 _ _ t378 _ _ t381 t408 _ ?side1 ?side2 ?side3 ?side4 A157.out).mono ?_
             (case side1 => repeat (first | exact (Kd.V_reads' HO_389002.out).2.2 | (with_reducible refine Kd.C_alloc ?_ _) | (with_reducible refine Kd.C_drewN ?_ _) | (with_reducible refine Kd.C_drew ?_)))
             (case side2 => exact (Kd.V_reads' HO_389002.out).2.1)
             (case side3 => repeat (first | exact (Kd.V_reads' HO_389003.out).2.2 | (with_reducible refine Kd.C_alloc ?_ _) | (with_reducible refine Kd.C_drewN ?_ _) | (with_reducible refine Kd.C_drew ?_)))
             (case side4 => exact (Kd.V_reads' HO_389003.out).2.1)
             rintro e w161 ⟨rfl, hb⟩
             refine ⟨_, rfl, ?_⟩
             replace HO_389002 := vb HO_389002 hb
             replace HO_389003 := vb HO_389003 hb
             replace BK369 := Aside0.mk (blk_below (bo BK369) hb)
             replace BK370 := Aside0.mk (blk_below (bo BK370) hb)
             replace BK371 := Aside0.mk (blk_below (bo BK371) hb)
             replace BK388 := Aside0.mk (blk_below (bo BK388) hb)
             replace BK389 := Aside0.mk (blk_below (bo BK389) hb)
             replace HB := Aside0.mk (below_step (bl HB) hb)
             (try clear hb)
             (try clear hb2)
             (try clear hk)
             (try clear hi)
             refine hK.out _ _ ⟨(blk_cell BK369.out 0).trans rfl, (blk_cell BK369.out 1).trans rfl, (blk_cell BK369.out 2).trans rfl, (blk_cell BK369.out 3).trans rfl, (blk_cell BK388.out 0).trans rfl, (blk_cell BK388.out 1).trans rfl, (blk_cell BK388.out 2).trans rfl, (blk_cell BK388.out 3).trans rfl, (blk_cell BK389.out 0).trans rfl, (blk_cell BK389.out 1).trans rfl, (blk_cell BK389.out 2).trans rfl, (blk_cell BK389.out 3).trans rfl⟩ (fun hHeld => ?_)
             clear hK K
             refine norm_ (a' := ?_) ?_ ?_
             rotate_left
             ·show Act.put _ (some 133) _ = _
              simp only [Act.put, List.setIfInBounds_toArray, List.set_cons_zero, List.set_cons_succ, i64_w, i32_w]
              rfl
             refine pureA 35 139 HT_ ?_
             refine pureA 36 140 HT_ ?_
             refine done_ (done_of HT_.out (by kernel_rfl)) ?_
             try go_wp2
             go_meet
             case rel => exact ⟨_, ((t408 != (wrap64 (t376 + t387)))), (by first | (with_reducible rfl) | rfl | (simp; done) | (simp [*]; done)), H', ⟨by have := HJ3.out; have := HJ66.out; have := HJ105.out; first | omega | exact Nat.le_refl _⟩, ⟨by (with_reducible repeat (first | apply Kd.V_alloc | apply Kd.V_drewN | apply Kd.V_drew)); exact HO_389002.out⟩, ⟨by (with_reducible repeat (first | apply Kd.V_alloc | apply Kd.V_drewN | apply Kd.V_drew)); exact HO_389003.out⟩, ⟨bo BK369⟩, ⟨bo BK370⟩, ⟨bo BK371⟩, ⟨bo BK388⟩, ⟨bo BK389⟩, ⟨bl HB⟩⟩
           ·rw [if_neg c151] at H
            have c151b0 : decide (0 < t387) = false := decide_eq_false c151
            clear c151
            replace H := Option.bind_eq_some_iff.mp H
            obtain ⟨t409, A1620, H⟩ := H
            have A162 := Aside0.mk A1620
            clear A1620
            have H' := Aside0.mk H
            clear H
            try go_wp2
            replace HO_389002 := Aside0.mk (Kd.V_drew HO_389002.out)
            replace HO_389003 := Aside0.mk (Kd.V_drew HO_389003.out)
            replace BK369 := Aside0.mk (blk_drew BK369.out)
            replace BK370 := Aside0.mk (blk_drew BK370.out)
            replace BK371 := Aside0.mk (blk_drew BK371.out)
            replace BK388 := Aside0.mk (blk_drew BK388.out)
            replace BK389 := Aside0.mk (blk_drew BK389.out)
            replace HB := Aside0.mk (below_drew1 HB.out)
            refine start_ (n := 37) (S := fun w' => w'.cell? ⟨gb369, 0, none⟩ = some (.int .i64 a0_0) ∧ w'.cell? ⟨gb369, 1, none⟩ = some (.int .i64 a0_1) ∧ w'.cell? ⟨gb369, 2, none⟩ = some (.int .i64 a0_2) ∧ w'.cell? ⟨gb369, 3, none⟩ = some (.int .i64 a0_3) ∧ w'.cell? ⟨gb388, 0, none⟩ = some (.int .i64 t376) ∧ w'.cell? ⟨gb388, 1, none⟩ = some (.int .i64 t377) ∧ w'.cell? ⟨gb388, 2, none⟩ = some (.slice Ao81 t378.length co81) ∧ w'.cell? ⟨gb388, 3, none⟩ = some (.slice Ao82 t381.length co82) ∧ w'.cell? ⟨gb389, 0, none⟩ = some (.bool t384) ∧ w'.cell? ⟨gb389, 1, none⟩ = some (.int .i64 t385) ∧ w'.cell? ⟨gb389, 2, none⟩ = some (.int .i64 t386) ∧ w'.cell? ⟨gb389, 3, none⟩ = some (.int .i64 t387)) (ds := []) #[false, false, false, false, false, false, false, false, false, false, false, false, false, false, false, false, false, false, false, false, false, false, false, false, false, false, false, false, false, false, false, false, false, false, false, false, false] (by kernel_rfl) rfl rfl ⟨(blk_cell BK369.out 0).trans rfl, (blk_cell BK369.out 1).trans rfl, (blk_cell BK369.out 2).trans rfl, (blk_cell BK369.out 3).trans rfl, (blk_cell BK388.out 0).trans rfl, (blk_cell BK388.out 1).trans rfl, (blk_cell BK388.out 2).trans rfl, (blk_cell BK388.out 3).trans rfl, (blk_cell BK389.out 0).trans rfl, (blk_cell BK389.out 1).trans rfl, (blk_cell BK389.out 2).trans rfl, (blk_cell BK389.out 3).trans rfl⟩ (fun hHeld => ?_); refine with_tabW sandglasslaw13_ExactMay.tab11 sandglasslaw13_ExactMay.bits11 (fun HT_ HW_ => ?_)
            generalize wc.drew = w163 at HO_389002 HO_389003 BK369 BK370 BK371 BK388 BK389 HB hHeld ⊢
            refine pureA 2 106 HT_ ?_
            refine pureA 4 108 HT_ ?_
            refine takeA 0 104 HT_ HW_ hHeld ?_
            refine takeA 1 105 HT_ HW_ hHeld ?_
            refine takeA 3 107 HT_ HW_ hHeld ?_
            refine takeA 5 109 HT_ HW_ hHeld ?_
            refine pureA 6 110 HT_ ?_
            refine one_ (i := 7) (N := some 111) #[true, true, true, true, true, true, true, true, false, false, false, false, false, false, false, false, false, false, false, false, false, false, false, false, false, false, false, false, false, false, false, false, false, false, false, false, false] rfl rfl (one_of HT_.out (by kernel_rfl)) (by decide) (fun K hK => ?_)
            refine goes_ Try.func15 (by kernel_rfl) rfl #[.agg #[.int .i64 a0_0, .int .i64 a0_1, .int .i64 a0_2, .int .i64 a0_3], .agg #[.int .i64 t376, .int .i64 t377, .slice Ao81 t378.length co81, .slice Ao82 t381.length co82], .int .i64 (wrap64 (t376 + t387))] (by rfl) rfl rfl (by (try simp only [List.map_toArray, List.map_cons, List.map_nil]); first | done | rfl | (simp only [List.length_drop, List.length_take]; rfl)) ?_
            with_reducible refine (exact_Total.calls kj105 a0_0 a0_1 a0_2 a0_3 t376 t377 _ _ t378 _ _ t381 (wrap64 (t376 + t387)) t406 _ ?side1 ?side2 ?side3 ?side4 A149.out).mono ?_
            (case side1 => repeat (first | exact (Kd.V_reads' HO_389002.out).2.2 | (with_reducible refine Kd.C_alloc ?_ _) | (with_reducible refine Kd.C_drewN ?_ _) | (with_reducible refine Kd.C_drew ?_)))
            (case side2 => exact (Kd.V_reads' HO_389002.out).2.1)
            (case side3 => repeat (first | exact (Kd.V_reads' HO_389003.out).2.2 | (with_reducible refine Kd.C_alloc ?_ _) | (with_reducible refine Kd.C_drewN ?_ _) | (with_reducible refine Kd.C_drew ?_)))
            (case side4 => exact (Kd.V_reads' HO_389003.out).2.1)
            rintro e w164 ⟨rfl, hb⟩
            refine ⟨_, rfl, ?_⟩
            replace HO_389002 := vb HO_389002 hb
            replace HO_389003 := vb HO_389003 hb
            replace BK369 := Aside0.mk (blk_below (bo BK369) hb)
            replace BK370 := Aside0.mk (blk_below (bo BK370) hb)
            replace BK371 := Aside0.mk (blk_below (bo BK371) hb)
            replace BK388 := Aside0.mk (blk_below (bo BK388) hb)
            replace BK389 := Aside0.mk (blk_below (bo BK389) hb)
            replace HB := Aside0.mk (below_step (bl HB) hb)
            (try clear hb)
            (try clear hb2)
            (try clear hk)
            (try clear hi)
            refine hK.out _ _ ⟨(blk_cell BK369.out 0).trans rfl, (blk_cell BK369.out 1).trans rfl, (blk_cell BK369.out 2).trans rfl, (blk_cell BK369.out 3).trans rfl, (blk_cell BK388.out 0).trans rfl, (blk_cell BK388.out 1).trans rfl, (blk_cell BK388.out 2).trans rfl, (blk_cell BK388.out 3).trans rfl, (blk_cell BK389.out 0).trans rfl, (blk_cell BK389.out 1).trans rfl, (blk_cell BK389.out 2).trans rfl, (blk_cell BK389.out 3).trans rfl⟩ (fun hHeld => ?_)
            clear hK K
            refine norm_ (a' := ?_) ?_ ?_
            rotate_left
            ·show Act.put _ (some 111) _ = _
             simp only [Act.put, List.setIfInBounds_toArray, List.set_cons_zero, List.set_cons_succ, i64_w, i32_w]
             rfl
            refine pureA 8 112 HT_ ?_
            refine pureA 9 113 HT_ ?_
            refine pureA 10 114 HT_ ?_
            refine takeA 11 115 HT_ HW_ hHeld ?_
            refine pureA 12 116 HT_ ?_
            refine pureA 13 117 HT_ ?_
            refine pure_ (i := 14) (N := some 118) (v := undef) (a' := ?_) #[true, true, true, true, true, true, true, true, true, true, true, true, true, true, true, false, false, false, false, false, false, false, false, false, false, false, false, false, false, false, false, false, false, false, false, false, false] rfl rfl (any_of HT_.out (by kernel_rfl)) (fun _ _ _ h => h) (Or.inr ⟨by rfl, rfl⟩) ?_ ?_
            rotate_left
            ·simp only [Act.put, List.setIfInBounds_toArray, List.set_cons_zero, List.set_cons_succ, i64_w, i32_w]
             rfl
            refine pure_ (i := 15) (N := some 119) (v := undef) (a' := ?_) #[true, true, true, true, true, true, true, true, true, true, true, true, true, true, true, true, false, false, false, false, false, false, false, false, false, false, false, false, false, false, false, false, false, false, false, false, false] rfl rfl (any_of HT_.out (by kernel_rfl)) (fun _ _ _ h => h) (Or.inr ⟨by rfl, rfl⟩) ?_ ?_
            rotate_left
            ·simp only [Act.put, List.setIfInBounds_toArray, List.set_cons_zero, List.set_cons_succ, i64_w, i32_w]
             rfl
            refine pure_ (i := 16) (N := some 120) (v := undef) (a' := ?_) #[true, true, true, true, true, true, true, true, true, true, true, true, true, true, true, true, true, false, false, false, false, false, false, false, false, false, false, false, false, false, false, false, false, false, false, false, false] rfl rfl (any_of HT_.out (by kernel_rfl)) (fun _ _ _ h => h) (Or.inr ⟨by rfl, rfl⟩) ?_ ?_
            rotate_left
            ·simp only [Act.put, List.setIfInBounds_toArray, List.set_cons_zero, List.set_cons_succ, i64_w, i32_w]
             rfl
            refine pure_ (i := 17) (N := some 121) (v := undef) (a' := ?_) #[true, true, true, true, true, true, true, true, true, true, true, true, true, true, true, true, true, true, false, false, false, false, false, false, false, false, false, false, false, false, false, false, false, false, false, false, false] rfl rfl (any_of HT_.out (by kernel_rfl)) (fun _ _ _ h => h) (Or.inr ⟨by rfl, rfl⟩) ?_ ?_
            rotate_left
            ·simp only [Act.put, List.setIfInBounds_toArray, List.set_cons_zero, List.set_cons_succ, i64_w, i32_w]
             rfl
            refine pure_ (i := 18) (N := some 122) (v := undef) (a' := ?_) #[true, true, true, true, true, true, true, true, true, true, true, true, true, true, true, true, true, true, true, false, false, false, false, false, false, false, false, false, false, false, false, false, false, false, false, false, false] rfl rfl (any_of HT_.out (by kernel_rfl)) (fun _ _ _ h => h) (Or.inr ⟨by rfl, rfl⟩) ?_ ?_
            rotate_left
            ·simp only [Act.put, List.setIfInBounds_toArray, List.set_cons_zero, List.set_cons_succ, i64_w, i32_w]
             rfl
            refine pure_ (i := 19) (N := some 123) (v := undef) (a' := ?_) #[true, true, true, true, true, true, true, true, true, true, true, true, true, true, true, true, true, true, true, true, false, false, false, false, false, false, false, false, false, false, false, false, false, false, false, false, false] rfl rfl (any_of HT_.out (by kernel_rfl)) (fun _ _ _ h => h) (Or.inr ⟨by rfl, rfl⟩) ?_ ?_
            rotate_left
            ·simp only [Act.put, List.setIfInBounds_toArray, List.set_cons_zero, List.set_cons_succ, i64_w, i32_w]
             rfl
            refine pure_ (i := 20) (N := some 124) (v := undef) (a' := ?_) #[true, true, true, true, true, true, true, true, true, true, true, true, true, true, true, true, true, true, true, true, true, false, false, false, false, false, false, false, false, false, false, false, false, false, false, false, false] rfl rfl (any_of HT_.out (by kernel_rfl)) (fun _ _ _ h => h) (Or.inr ⟨by rfl, rfl⟩) ?_ ?_
            rotate_left
            ·simp only [Act.put, List.setIfInBounds_toArray, List.set_cons_zero, List.set_cons_succ, i64_w, i32_w]
             rfl
            refine pure_ (i := 21) (N := some 125) (v := undef) (a' := ?_) #[true, true, true, true, true, true, true, true, true, true, true, true, true, true, true, true, true, true, true, true, true, true, false, false, false, false, false, false, false, false, false, false, false, false, false, false, false] rfl rfl (any_of HT_.out (by kernel_rfl)) (fun _ _ _ h => h) (Or.inr ⟨by rfl, rfl⟩) ?_ ?_
            rotate_left
            ·simp only [Act.put, List.setIfInBounds_toArray, List.set_cons_zero, List.set_cons_succ, i64_w, i32_w]
             rfl
            refine pure_ (i := 22) (N := some 126) (v := undef) (a' := ?_) #[true, true, true, true, true, true, true, true, true, true, true, true, true, true, true, true, true, true, true, true, true, true, true, false, false, false, false, false, false, false, false, false, false, false, false, false, false] rfl rfl (any_of HT_.out (by kernel_rfl)) (fun _ _ _ h => h) (Or.inr ⟨by rfl, rfl⟩) ?_ ?_
            rotate_left
            ·simp only [Act.put, List.setIfInBounds_toArray, List.set_cons_zero, List.set_cons_succ, i64_w, i32_w]
             rfl
            refine pure_ (i := 23) (N := some 127) (v := undef) (a' := ?_) #[true, true, true, true, true, true, true, true, true, true, true, true, true, true, true, true, true, true, true, true, true, true, true, true, false, false, false, false, false, false, false, false, false, false, false, false, false] rfl rfl (any_of HT_.out (by kernel_rfl)) (fun _ _ _ h => h) (Or.inr ⟨by rfl, rfl⟩) ?_ ?_
            rotate_left
            ·simp only [Act.put, List.setIfInBounds_toArray, List.set_cons_zero, List.set_cons_succ, i64_w, i32_w]
             rfl
            refine pureA 24 128 HT_ ?_
            refine pureA 25 129 HT_ ?_
            refine pureA 26 130 HT_ ?_
            refine pureA 30 134 HT_ ?_
            refine pureA 32 136 HT_ ?_
            refine takeA 27 131 HT_ HW_ hHeld ?_
            refine takeA 28 132 HT_ HW_ hHeld ?_
            refine takeA 31 135 HT_ HW_ hHeld ?_
            refine takeA 33 137 HT_ HW_ hHeld ?_
            refine pureA 34 138 HT_ ?_
            refine one_ (i := 29) (N := some 133) #[true, true, true, true, true, true, true, true, true, true, true, true, true, true, true, true, true, true, true, true, true, true, true, true, true, true, true, true, true, true, true, true, true, true, true, false, false] rfl rfl (one_of HT_.out (by kernel_rfl)) (by decide) (fun K hK => ?_)
            refine goes_ Try.func17 (by kernel_rfl) rfl #[.agg #[.int .i64 a0_0, .int .i64 a0_1, .int .i64 a0_2, .int .i64 a0_3], .agg #[.int .i64 t376, .int .i64 t377, .slice Ao81 t378.length co81, .slice Ao82 t381.length co82]] (by rfl) rfl rfl (by (try simp only [List.map_toArray, List.map_cons, List.map_nil]); first | done | rfl | (simp only [List.length_drop, List.length_take]; rfl)) ?_
            with_reducible refine (exact_Ends.calls kj105 a0_0 a0_1 a0_2 a0_3 t376 t377 _ _ t378 _ _ t381 t409 _ ?side1 ?side2 ?side3 ?side4 A162.out).mono ?_
            (case side1 => repeat (first | exact (Kd.V_reads' HO_389002.out).2.2 | (with_reducible refine Kd.C_alloc ?_ _) | (with_reducible refine Kd.C_drewN ?_ _) | (with_reducible refine Kd.C_drew ?_)))
            (case side2 => exact (Kd.V_reads' HO_389002.out).2.1)
            (case side3 => repeat (first | exact (Kd.V_reads' HO_389003.out).2.2 | (with_reducible refine Kd.C_alloc ?_ _) | (with_reducible refine Kd.C_drewN ?_ _) | (with_reducible refine Kd.C_drew ?_)))
            (case side4 => exact (Kd.V_reads' HO_389003.out).2.1)
            rintro e w165 ⟨rfl, hb⟩
            refine ⟨_, rfl, ?_⟩
            replace HO_389002 := vb HO_389002 hb
            replace HO_389003 := vb HO_389003 hb
            replace BK369 := Aside0.mk (blk_below (bo BK369) hb)
            replace BK370 := Aside0.mk (blk_below (bo BK370) hb)
            replace BK371 := Aside0.mk (blk_below (bo BK371) hb)
            replace BK388 := Aside0.mk (blk_below (bo BK388) hb)
            replace BK389 := Aside0.mk (blk_below (bo BK389) hb)
            replace HB := Aside0.mk (below_step (bl HB) hb)
            (try clear hb)
            (try clear hb2)
            (try clear hk)
            (try clear hi)
            refine hK.out _ _ ⟨(blk_cell BK369.out 0).trans rfl, (blk_cell BK369.out 1).trans rfl, (blk_cell BK369.out 2).trans rfl, (blk_cell BK369.out 3).trans rfl, (blk_cell BK388.out 0).trans rfl, (blk_cell BK388.out 1).trans rfl, (blk_cell BK388.out 2).trans rfl, (blk_cell BK388.out 3).trans rfl, (blk_cell BK389.out 0).trans rfl, (blk_cell BK389.out 1).trans rfl, (blk_cell BK389.out 2).trans rfl, (blk_cell BK389.out 3).trans rfl⟩ (fun hHeld => ?_)
            clear hK K
            refine norm_ (a' := ?_) ?_ ?_
            rotate_left
            ·show Act.put _ (some 133) _ = _
             simp only [Act.put, List.setIfInBounds_toArray, List.set_cons_zero, List.set_cons_succ, i64_w, i32_w]
             rfl
            refine pureA 35 139 HT_ ?_
            refine pureA 36 140 HT_ ?_
            refine done_ (done_of HT_.out (by kernel_rfl)) ?_
            try go_wp2
            go_meet
            case rel => exact ⟨_, ((t409 != (wrap64 (t376 + t387)))), (by first | (with_reducible rfl) | rfl | (simp; done) | (simp [*]; done)), H', ⟨by have := HJ3.out; have := HJ66.out; have := HJ105.out; first | omega | exact Nat.le_refl _⟩, ⟨by (with_reducible repeat (first | apply Kd.V_alloc | apply Kd.V_drewN | apply Kd.V_drew)); exact HO_389002.out⟩, ⟨by (with_reducible repeat (first | apply Kd.V_alloc | apply Kd.V_drewN | apply Kd.V_drew)); exact HO_389003.out⟩, ⟨bo BK369⟩, ⟨bo BK370⟩, ⟨bo BK371⟩, ⟨bo BK388⟩, ⟨bo BK389⟩, ⟨bl HB⟩⟩
          ·rw [if_neg c150] at H
           have c150b0 : (t406 == 0) = false := beq_eq_false_iff_ne.mpr c150
           have c150b1 : (t406 != 0) = true := bne_iff_ne.mpr c150
           (first | rw [c150b0] | (simp only [i64_w, i32_w]; rw [c150b0]) | skip)
           have H' := Aside0.mk H
           clear H
           try go_wp2
           replace HO_389002 := Aside0.mk (Kd.V_drew HO_389002.out)
           replace HO_389003 := Aside0.mk (Kd.V_drew HO_389003.out)
           replace BK369 := Aside0.mk (blk_drew BK369.out)
           replace BK370 := Aside0.mk (blk_drew BK370.out)
           replace BK371 := Aside0.mk (blk_drew BK371.out)
           replace BK388 := Aside0.mk (blk_drew BK388.out)
           replace BK389 := Aside0.mk (blk_drew BK389.out)
           replace HB := Aside0.mk (below_drew1 HB.out)
           refine start_ (n := 37) (S := fun w' => w'.cell? ⟨gb369, 0, none⟩ = some (.int .i64 a0_0) ∧ w'.cell? ⟨gb369, 1, none⟩ = some (.int .i64 a0_1) ∧ w'.cell? ⟨gb369, 2, none⟩ = some (.int .i64 a0_2) ∧ w'.cell? ⟨gb369, 3, none⟩ = some (.int .i64 a0_3) ∧ w'.cell? ⟨gb388, 0, none⟩ = some (.int .i64 t376) ∧ w'.cell? ⟨gb388, 1, none⟩ = some (.int .i64 t377) ∧ w'.cell? ⟨gb388, 2, none⟩ = some (.slice Ao81 t378.length co81) ∧ w'.cell? ⟨gb388, 3, none⟩ = some (.slice Ao82 t381.length co82) ∧ w'.cell? ⟨gb389, 0, none⟩ = some (.bool t384) ∧ w'.cell? ⟨gb389, 1, none⟩ = some (.int .i64 t385) ∧ w'.cell? ⟨gb389, 2, none⟩ = some (.int .i64 t386) ∧ w'.cell? ⟨gb389, 3, none⟩ = some (.int .i64 t387)) (ds := []) #[false, false, false, false, false, false, false, false, false, false, false, false, false, false, false, false, false, false, false, false, false, false, false, false, false, false, false, false, false, false, false, false, false, false, false, false, false] (by kernel_rfl) rfl rfl ⟨(blk_cell BK369.out 0).trans rfl, (blk_cell BK369.out 1).trans rfl, (blk_cell BK369.out 2).trans rfl, (blk_cell BK369.out 3).trans rfl, (blk_cell BK388.out 0).trans rfl, (blk_cell BK388.out 1).trans rfl, (blk_cell BK388.out 2).trans rfl, (blk_cell BK388.out 3).trans rfl, (blk_cell BK389.out 0).trans rfl, (blk_cell BK389.out 1).trans rfl, (blk_cell BK389.out 2).trans rfl, (blk_cell BK389.out 3).trans rfl⟩ (fun hHeld => ?_); refine with_tabW sandglasslaw13_ExactMay.tab11 sandglasslaw13_ExactMay.bits11 (fun HT_ HW_ => ?_)
           generalize wc.drew = w166 at HO_389002 HO_389003 BK369 BK370 BK371 BK388 BK389 HB hHeld ⊢
           refine pureA 2 106 HT_ ?_
           refine pureA 4 108 HT_ ?_
           refine takeA 0 104 HT_ HW_ hHeld ?_
           refine takeA 1 105 HT_ HW_ hHeld ?_
           refine takeA 3 107 HT_ HW_ hHeld ?_
           refine takeA 5 109 HT_ HW_ hHeld ?_
           refine pureA 6 110 HT_ ?_
           refine one_ (i := 7) (N := some 111) #[true, true, true, true, true, true, true, true, false, false, false, false, false, false, false, false, false, false, false, false, false, false, false, false, false, false, false, false, false, false, false, false, false, false, false, false, false] rfl rfl (one_of HT_.out (by kernel_rfl)) (by decide) (fun K hK => ?_)
           refine goes_ Try.func15 (by kernel_rfl) rfl #[.agg #[.int .i64 a0_0, .int .i64 a0_1, .int .i64 a0_2, .int .i64 a0_3], .agg #[.int .i64 t376, .int .i64 t377, .slice Ao81 t378.length co81, .slice Ao82 t381.length co82], .int .i64 (wrap64 (t376 + t387))] (by rfl) rfl rfl (by (try simp only [List.map_toArray, List.map_cons, List.map_nil]); first | done | rfl | (simp only [List.length_drop, List.length_take]; rfl)) ?_
           with_reducible refine (exact_Total.calls kj105 a0_0 a0_1 a0_2 a0_3 t376 t377 _ _ t378 _ _ t381 (wrap64 (t376 + t387)) t406 _ ?side1 ?side2 ?side3 ?side4 A149.out).mono ?_
           (case side1 => repeat (first | exact (Kd.V_reads' HO_389002.out).2.2 | (with_reducible refine Kd.C_alloc ?_ _) | (with_reducible refine Kd.C_drewN ?_ _) | (with_reducible refine Kd.C_drew ?_)))
           (case side2 => exact (Kd.V_reads' HO_389002.out).2.1)
           (case side3 => repeat (first | exact (Kd.V_reads' HO_389003.out).2.2 | (with_reducible refine Kd.C_alloc ?_ _) | (with_reducible refine Kd.C_drewN ?_ _) | (with_reducible refine Kd.C_drew ?_)))
           (case side4 => exact (Kd.V_reads' HO_389003.out).2.1)
           rintro e w167 ⟨rfl, hb⟩
           refine ⟨_, rfl, ?_⟩
           replace HO_389002 := vb HO_389002 hb
           replace HO_389003 := vb HO_389003 hb
           replace BK369 := Aside0.mk (blk_below (bo BK369) hb)
           replace BK370 := Aside0.mk (blk_below (bo BK370) hb)
           replace BK371 := Aside0.mk (blk_below (bo BK371) hb)
           replace BK388 := Aside0.mk (blk_below (bo BK388) hb)
           replace BK389 := Aside0.mk (blk_below (bo BK389) hb)
           replace HB := Aside0.mk (below_step (bl HB) hb)
           (try clear hb)
           (try clear hb2)
           (try clear hk)
           (try clear hi)
           refine hK.out _ _ ⟨(blk_cell BK369.out 0).trans rfl, (blk_cell BK369.out 1).trans rfl, (blk_cell BK369.out 2).trans rfl, (blk_cell BK369.out 3).trans rfl, (blk_cell BK388.out 0).trans rfl, (blk_cell BK388.out 1).trans rfl, (blk_cell BK388.out 2).trans rfl, (blk_cell BK388.out 3).trans rfl, (blk_cell BK389.out 0).trans rfl, (blk_cell BK389.out 1).trans rfl, (blk_cell BK389.out 2).trans rfl, (blk_cell BK389.out 3).trans rfl⟩ (fun hHeld => ?_)
           clear hK K
           refine norm_ (a' := ?_) ?_ ?_
           rotate_left
           ·show Act.put _ (some 111) _ = _
            simp only [Act.put, List.setIfInBounds_toArray, List.set_cons_zero, List.set_cons_succ, i64_w, i32_w]
            rfl
           refine pureA 8 112 HT_ ?_
           refine pureA 9 113 HT_ ?_
           refine pure_ (i := 10) (N := some 114) (v := undef) (a' := ?_) #[true, true, true, true, true, true, true, true, true, true, true, false, false, false, false, false, false, false, false, false, false, false, false, false, false, false, false, false, false, false, false, false, false, false, false, false, false] rfl rfl (any_of HT_.out (by kernel_rfl)) (fun _ _ _ h => h) (Or.inr ⟨by rfl, rfl⟩) ?_ ?_
           rotate_left
           ·simp only [Act.put, List.setIfInBounds_toArray, List.set_cons_zero, List.set_cons_succ, i64_w, i32_w]
            rfl
           refine pure_ (i := 11) (N := some 115) (v := undef) (a' := ?_) #[true, true, true, true, true, true, true, true, true, true, true, true, false, false, false, false, false, false, false, false, false, false, false, false, false, false, false, false, false, false, false, false, false, false, false, false, false] rfl rfl (any_of HT_.out (by kernel_rfl)) (fun _ _ _ h => h) (Or.inr ⟨by rfl, rfl⟩) ?_ ?_
           rotate_left
           ·simp only [Act.put, List.setIfInBounds_toArray, List.set_cons_zero, List.set_cons_succ, i64_w, i32_w]
            rfl
           refine pure_ (i := 12) (N := some 116) (v := undef) (a' := ?_) #[true, true, true, true, true, true, true, true, true, true, true, true, true, false, false, false, false, false, false, false, false, false, false, false, false, false, false, false, false, false, false, false, false, false, false, false, false] rfl rfl (any_of HT_.out (by kernel_rfl)) (fun _ _ _ h => h) (Or.inr ⟨by rfl, rfl⟩) ?_ ?_
           rotate_left
           ·simp only [Act.put, List.setIfInBounds_toArray, List.set_cons_zero, List.set_cons_succ, i64_w, i32_w]
            rfl
           refine pure_ (i := 13) (N := some 117) (v := undef) (a' := ?_) #[true, true, true, true, true, true, true, true, true, true, true, true, true, true, false, false, false, false, false, false, false, false, false, false, false, false, false, false, false, false, false, false, false, false, false, false, false] rfl rfl (any_of HT_.out (by kernel_rfl)) (fun _ _ _ h => h) (Or.inr ⟨by rfl, rfl⟩) ?_ ?_
           rotate_left
           ·simp only [Act.put, List.setIfInBounds_toArray, List.set_cons_zero, List.set_cons_succ, i64_w, i32_w]
            rfl
           refine pure_ (i := 14) (N := some 118) (v := undef) (a' := ?_) #[true, true, true, true, true, true, true, true, true, true, true, true, true, true, true, false, false, false, false, false, false, false, false, false, false, false, false, false, false, false, false, false, false, false, false, false, false] rfl rfl (any_of HT_.out (by kernel_rfl)) (fun _ _ _ h => h) (Or.inr ⟨by rfl, rfl⟩) ?_ ?_
           rotate_left
           ·simp only [Act.put, List.setIfInBounds_toArray, List.set_cons_zero, List.set_cons_succ, i64_w, i32_w]
            rfl
           refine pure_ (i := 15) (N := some 119) (v := undef) (a' := ?_) #[true, true, true, true, true, true, true, true, true, true, true, true, true, true, true, true, false, false, false, false, false, false, false, false, false, false, false, false, false, false, false, false, false, false, false, false, false] rfl rfl (any_of HT_.out (by kernel_rfl)) (fun _ _ _ h => h) (Or.inr ⟨by rfl, rfl⟩) ?_ ?_
           rotate_left
           ·simp only [Act.put, List.setIfInBounds_toArray, List.set_cons_zero, List.set_cons_succ, i64_w, i32_w]
            rfl
           refine pure_ (i := 16) (N := some 120) (v := undef) (a' := ?_) #[true, true, true, true, true, true, true, true, true, true, true, true, true, true, true, true, true, false, false, false, false, false, false, false, false, false, false, false, false, false, false, false, false, false, false, false, false] rfl rfl (any_of HT_.out (by kernel_rfl)) (fun _ _ _ h => h) (Or.inr ⟨by rfl, rfl⟩) ?_ ?_
           rotate_left
           ·simp only [Act.put, List.setIfInBounds_toArray, List.set_cons_zero, List.set_cons_succ, i64_w, i32_w]
            rfl
           refine pure_ (i := 17) (N := some 121) (v := undef) (a' := ?_) #[true, true, true, true, true, true, true, true, true, true, true, true, true, true, true, true, true, true, false, false, false, false, false, false, false, false, false, false, false, false, false, false, false, false, false, false, false] rfl rfl (any_of HT_.out (by kernel_rfl)) (fun _ _ _ h => h) (Or.inr ⟨by rfl, rfl⟩) ?_ ?_
           rotate_left
           ·simp only [Act.put, List.setIfInBounds_toArray, List.set_cons_zero, List.set_cons_succ, i64_w, i32_w]
            rfl
           refine pure_ (i := 18) (N := some 122) (v := undef) (a' := ?_) #[true, true, true, true, true, true, true, true, true, true, true, true, true, true, true, true, true, true, true, false, false, false, false, false, false, false, false, false, false, false, false, false, false, false, false, false, false] rfl rfl (any_of HT_.out (by kernel_rfl)) (fun _ _ _ h => h) (Or.inr ⟨by rfl, rfl⟩) ?_ ?_
           rotate_left
           ·simp only [Act.put, List.setIfInBounds_toArray, List.set_cons_zero, List.set_cons_succ, i64_w, i32_w]
            rfl
           refine pure_ (i := 19) (N := some 123) (v := undef) (a' := ?_) #[true, true, true, true, true, true, true, true, true, true, true, true, true, true, true, true, true, true, true, true, false, false, false, false, false, false, false, false, false, false, false, false, false, false, false, false, false] rfl rfl (any_of HT_.out (by kernel_rfl)) (fun _ _ _ h => h) (Or.inr ⟨by rfl, rfl⟩) ?_ ?_
           rotate_left
           ·simp only [Act.put, List.setIfInBounds_toArray, List.set_cons_zero, List.set_cons_succ, i64_w, i32_w]
            rfl
           refine pure_ (i := 20) (N := some 124) (v := undef) (a' := ?_) #[true, true, true, true, true, true, true, true, true, true, true, true, true, true, true, true, true, true, true, true, true, false, false, false, false, false, false, false, false, false, false, false, false, false, false, false, false] rfl rfl (any_of HT_.out (by kernel_rfl)) (fun _ _ _ h => h) (Or.inr ⟨by rfl, rfl⟩) ?_ ?_
           rotate_left
           ·simp only [Act.put, List.setIfInBounds_toArray, List.set_cons_zero, List.set_cons_succ, i64_w, i32_w]
            rfl
           refine pure_ (i := 21) (N := some 125) (v := undef) (a' := ?_) #[true, true, true, true, true, true, true, true, true, true, true, true, true, true, true, true, true, true, true, true, true, true, false, false, false, false, false, false, false, false, false, false, false, false, false, false, false] rfl rfl (any_of HT_.out (by kernel_rfl)) (fun _ _ _ h => h) (Or.inr ⟨by rfl, rfl⟩) ?_ ?_
           rotate_left
           ·simp only [Act.put, List.setIfInBounds_toArray, List.set_cons_zero, List.set_cons_succ, i64_w, i32_w]
            rfl
           refine pure_ (i := 22) (N := some 126) (v := undef) (a' := ?_) #[true, true, true, true, true, true, true, true, true, true, true, true, true, true, true, true, true, true, true, true, true, true, true, false, false, false, false, false, false, false, false, false, false, false, false, false, false] rfl rfl (any_of HT_.out (by kernel_rfl)) (fun _ _ _ h => h) (Or.inr ⟨by rfl, rfl⟩) ?_ ?_
           rotate_left
           ·simp only [Act.put, List.setIfInBounds_toArray, List.set_cons_zero, List.set_cons_succ, i64_w, i32_w]
            rfl
           refine pure_ (i := 23) (N := some 127) (v := undef) (a' := ?_) #[true, true, true, true, true, true, true, true, true, true, true, true, true, true, true, true, true, true, true, true, true, true, true, true, false, false, false, false, false, false, false, false, false, false, false, false, false] rfl rfl (any_of HT_.out (by kernel_rfl)) (fun _ _ _ h => h) (Or.inr ⟨by rfl, rfl⟩) ?_ ?_
           rotate_left
           ·simp only [Act.put, List.setIfInBounds_toArray, List.set_cons_zero, List.set_cons_succ, i64_w, i32_w]
            rfl
           refine pure_ (i := 24) (N := some 128) (v := undef) (a' := ?_) #[true, true, true, true, true, true, true, true, true, true, true, true, true, true, true, true, true, true, true, true, true, true, true, true, true, false, false, false, false, false, false, false, false, false, false, false, false] rfl rfl (any_of HT_.out (by kernel_rfl)) (fun _ _ _ h => h) (Or.inr ⟨by rfl, rfl⟩) ?_ ?_
           rotate_left
           ·simp only [Act.put, List.setIfInBounds_toArray, List.set_cons_zero, List.set_cons_succ, i64_w, i32_w]
            rfl
           refine pureA 25 129 HT_ ?_
           refine pureA 26 130 HT_ ?_
           refine pure_ (i := 27) (N := some 131) (v := undef) (a' := ?_) #[true, true, true, true, true, true, true, true, true, true, true, true, true, true, true, true, true, true, true, true, true, true, true, true, true, true, true, true, false, false, false, false, false, false, false, false, false] rfl rfl (any_of HT_.out (by kernel_rfl)) (fun _ _ _ h => h) (Or.inr ⟨by rfl, rfl⟩) ?_ ?_
           rotate_left
           ·simp only [Act.put, List.setIfInBounds_toArray, List.set_cons_zero, List.set_cons_succ, i64_w, i32_w]
            rfl
           refine pure_ (i := 28) (N := some 132) (v := undef) (a' := ?_) #[true, true, true, true, true, true, true, true, true, true, true, true, true, true, true, true, true, true, true, true, true, true, true, true, true, true, true, true, true, false, false, false, false, false, false, false, false] rfl rfl (any_of HT_.out (by kernel_rfl)) (fun _ _ _ h => h) (Or.inr ⟨by rfl, rfl⟩) ?_ ?_
           rotate_left
           ·simp only [Act.put, List.setIfInBounds_toArray, List.set_cons_zero, List.set_cons_succ, i64_w, i32_w]
            rfl
           refine pure_ (i := 29) (N := some 133) (v := undef) (a' := ?_) #[true, true, true, true, true, true, true, true, true, true, true, true, true, true, true, true, true, true, true, true, true, true, true, true, true, true, true, true, true, true, false, false, false, false, false, false, false] rfl rfl (any_of HT_.out (by kernel_rfl)) (fun _ _ _ h => h) (Or.inr ⟨by rfl, rfl⟩) ?_ ?_
           rotate_left
           ·simp only [Act.put, List.setIfInBounds_toArray, List.set_cons_zero, List.set_cons_succ, i64_w, i32_w]
            rfl
           refine pure_ (i := 30) (N := some 134) (v := undef) (a' := ?_) #[true, true, true, true, true, true, true, true, true, true, true, true, true, true, true, true, true, true, true, true, true, true, true, true, true, true, true, true, true, true, true, false, false, false, false, false, false] rfl rfl (any_of HT_.out (by kernel_rfl)) (fun _ _ _ h => h) (Or.inr ⟨by rfl, rfl⟩) ?_ ?_
           rotate_left
           ·simp only [Act.put, List.setIfInBounds_toArray, List.set_cons_zero, List.set_cons_succ, i64_w, i32_w]
            rfl
           refine pure_ (i := 31) (N := some 135) (v := undef) (a' := ?_) #[true, true, true, true, true, true, true, true, true, true, true, true, true, true, true, true, true, true, true, true, true, true, true, true, true, true, true, true, true, true, true, true, false, false, false, false, false] rfl rfl (any_of HT_.out (by kernel_rfl)) (fun _ _ _ h => h) (Or.inr ⟨by rfl, rfl⟩) ?_ ?_
           rotate_left
           ·simp only [Act.put, List.setIfInBounds_toArray, List.set_cons_zero, List.set_cons_succ, i64_w, i32_w]
            rfl
           refine pure_ (i := 32) (N := some 136) (v := undef) (a' := ?_) #[true, true, true, true, true, true, true, true, true, true, true, true, true, true, true, true, true, true, true, true, true, true, true, true, true, true, true, true, true, true, true, true, true, false, false, false, false] rfl rfl (any_of HT_.out (by kernel_rfl)) (fun _ _ _ h => h) (Or.inr ⟨by rfl, rfl⟩) ?_ ?_
           rotate_left
           ·simp only [Act.put, List.setIfInBounds_toArray, List.set_cons_zero, List.set_cons_succ, i64_w, i32_w]
            rfl
           refine pure_ (i := 33) (N := some 137) (v := undef) (a' := ?_) #[true, true, true, true, true, true, true, true, true, true, true, true, true, true, true, true, true, true, true, true, true, true, true, true, true, true, true, true, true, true, true, true, true, true, false, false, false] rfl rfl (any_of HT_.out (by kernel_rfl)) (fun _ _ _ h => h) (Or.inr ⟨by rfl, rfl⟩) ?_ ?_
           rotate_left
           ·simp only [Act.put, List.setIfInBounds_toArray, List.set_cons_zero, List.set_cons_succ, i64_w, i32_w]
            rfl
           refine pure_ (i := 34) (N := some 138) (v := undef) (a' := ?_) #[true, true, true, true, true, true, true, true, true, true, true, true, true, true, true, true, true, true, true, true, true, true, true, true, true, true, true, true, true, true, true, true, true, true, true, false, false] rfl rfl (any_of HT_.out (by kernel_rfl)) (fun _ _ _ h => h) (Or.inr ⟨by rfl, rfl⟩) ?_ ?_
           rotate_left
           ·simp only [Act.put, List.setIfInBounds_toArray, List.set_cons_zero, List.set_cons_succ, i64_w, i32_w]
            rfl
           refine pure_ (i := 35) (N := some 139) (v := undef) (a' := ?_) #[true, true, true, true, true, true, true, true, true, true, true, true, true, true, true, true, true, true, true, true, true, true, true, true, true, true, true, true, true, true, true, true, true, true, true, true, false] rfl rfl (any_of HT_.out (by kernel_rfl)) (fun _ _ _ h => h) (Or.inr ⟨by rfl, rfl⟩) ?_ ?_
           rotate_left
           ·simp only [Act.put, List.setIfInBounds_toArray, List.set_cons_zero, List.set_cons_succ, i64_w, i32_w]
            rfl
           refine pureA 36 140 HT_ ?_
           refine done_ (done_of HT_.out (by kernel_rfl)) ?_
           try go_wp2
           go_meet
           case rel => exact ⟨_, (true), (by first | (with_reducible rfl) | rfl | (simp; done) | (simp [*]; done)), H', ⟨by have := HJ3.out; have := HJ66.out; have := HJ105.out; first | omega | exact Nat.le_refl _⟩, ⟨by (with_reducible repeat (first | apply Kd.V_alloc | apply Kd.V_drewN | apply Kd.V_drew)); exact HO_389002.out⟩, ⟨by (with_reducible repeat (first | apply Kd.V_alloc | apply Kd.V_drewN | apply Kd.V_drew)); exact HO_389003.out⟩, ⟨bo BK369⟩, ⟨bo BK370⟩, ⟨bo BK371⟩, ⟨bo BK388⟩, ⟨bo BK389⟩, ⟨bl HB⟩⟩
         case rest =>
          as_aux_lemma =>
          clear HC148
          try clear c150; try clear c150b0; try clear c150b1
          obtain ⟨kq, x140_147, rfl, HA, HJ147, HO_389002, HO_389003, BK369, BK370, BK371, BK388, BK389, HB⟩ := hcut
          cases kq with
          | zero => exact absurd HA.out (by simp [sandglasslaw13_ExactMay.j3])
          | succ kj147 =>
           have H := HA.out
           clear HA
           simp only [sandglasslaw13_ExactMay.j3] at H
           by_cases c168 : x140_147 = true
           ·subst c168
            rw [if_pos rfl] at H
            exact absurd H (by simp)
           ·replace c168 := Bool.eq_false_iff.mpr c168
            subst c168
            rw [if_neg (show ¬ (false = true) by decide)] at H
            by_cases c169 : t384 = true
            ·subst c169
             rw [if_pos rfl] at H
             by_cases c170 : t386 = 0
             ·rw [if_pos c170] at H
              have c170b0 : (t386 == 0) = true := beq_iff_eq.mpr c170
              have c170b1 : (t386 != 0) = false := bne_eq_false_iff_eq.mpr c170
              clear c170
              replace H := Option.bind_eq_some_iff.mp H
              obtain ⟨t410, A1710, H⟩ := H
              have A171 := Aside0.mk A1710
              clear A1710
              obtain rfl := Option.some.inj H
              have hnb172 := NB389_369.out
              have hnc172 := NB369_389.out
              have hnb173 := NB389_370.out
              have hnc173 := NB370_389.out
              have hnb174 := NB389_371.out
              have hnc174 := NB371_389.out
              have hnb175 := NB389_388.out
              have hnc175 := NB388_389.out
              obtain ⟨hcz176_0, hcz176_1, hcz176_2, hcz176_3⟩ := ce4 BK389
              obtain ⟨hfz176_0, hfz176_1, hfz176_2, hfz176_3⟩ := fr4 BK389
              go_wp2_with (first | (go_at_call 9; (with_reducible refine (sandglasslaw13_live.calls kj147  t410 _ A171.out).mono ?_); rintro e w177 ⟨rfl, hb⟩; replace HO_389002 := vb HO_389002 hb; replace HO_389003 := vb HO_389003 hb; replace BK369 := Aside0.mk (blk_below (bo BK369) hb); replace BK370 := Aside0.mk (blk_below (bo BK370) hb); replace BK371 := Aside0.mk (blk_below (bo BK371) hb); replace BK388 := Aside0.mk (blk_below (bo BK388) hb); replace BK389 := Aside0.mk (blk_below (bo BK389) hb); replace HB := Aside0.mk (below_step (bl HB) hb); (try clear hb); (try clear hb2); (try clear hk); (try clear hi)))
              go_ret
              exact ⟨by first | (with_reducible rfl) | rfl | (simp [errW_none, errW_some] <;> rfl) | (simp [*, errW_none, errW_some] <;> rfl), bl HB⟩
             ·rw [if_neg c170] at H
              exact absurd H (by simp)
            ·replace c169 := Bool.eq_false_iff.mpr c169
             subst c169
             rw [if_neg (show ¬ (false = true) by decide)] at H
             by_cases c178 : a2_1 > a0_1
             ·rw [if_pos c178] at H
              have c178b0 : decide (a0_1 < a2_1) = true := decide_eq_true c178
              clear c178
              by_cases c179 : t386 = 2199023255552
              ·rw [if_pos c179] at H
               have c179b0 : (t386 == 2199023255552) = true := beq_iff_eq.mpr c179
               have c179b1 : (t386 != 2199023255552) = false := bne_eq_false_iff_eq.mpr c179
               clear c179
               replace H := Option.bind_eq_some_iff.mp H
               obtain ⟨t411, A1800, H⟩ := H
               have A180 := Aside0.mk A1800
               clear A1800
               obtain rfl := Option.some.inj H
               have hnb181 := NB389_369.out
               have hnc181 := NB369_389.out
               have hnb182 := NB389_370.out
               have hnc182 := NB370_389.out
               have hnb183 := NB389_371.out
               have hnc183 := NB371_389.out
               have hnb184 := NB389_388.out
               have hnc184 := NB388_389.out
               obtain ⟨hcz185_0, hcz185_1, hcz185_2, hcz185_3⟩ := ce4 BK389
               obtain ⟨hfz185_0, hfz185_1, hfz185_2, hfz185_3⟩ := fr4 BK389
               have hnb186 := NB369_370.out
               have hnc186 := NB370_369.out
               have hnb187 := NB369_371.out
               have hnc187 := NB371_369.out
               have hnb188 := NB369_388.out
               have hnc188 := NB388_369.out
               obtain ⟨hcz189_0, hcz189_1, hcz189_2, hcz189_3⟩ := ce4 BK369
               obtain ⟨hfz189_0, hfz189_1, hfz189_2, hfz189_3⟩ := fr4 BK369
               go_wp2_with (first | (go_at_call 9; (with_reducible refine (sandglasslaw13_live.calls kj147  t411 _ A180.out).mono ?_); rintro e w190 ⟨rfl, hb⟩; replace HO_389002 := vb HO_389002 hb; replace HO_389003 := vb HO_389003 hb; replace BK369 := Aside0.mk (blk_below (bo BK369) hb); replace BK370 := Aside0.mk (blk_below (bo BK370) hb); replace BK371 := Aside0.mk (blk_below (bo BK371) hb); replace BK388 := Aside0.mk (blk_below (bo BK388) hb); replace BK389 := Aside0.mk (blk_below (bo BK389) hb); replace HB := Aside0.mk (below_step (bl HB) hb); (try clear hb); (try clear hb2); (try clear hk); (try clear hi)))
               go_ret
               exact ⟨by first | (with_reducible rfl) | rfl | (simp [errW_none, errW_some] <;> rfl) | (simp [*, errW_none, errW_some] <;> rfl), bl HB⟩
              ·rw [if_neg c179] at H
               exact absurd H (by simp)
             ·rw [if_neg c178] at H
              have c178b0 : decide (a0_1 < a2_1) = false := decide_eq_false c178
              clear c178
              replace H := Option.bind_eq_some_iff.mp H
              obtain ⟨⟨t412, t413, t414, t417, t420, t421, t422, t423⟩, A1910, H⟩ := H
              have A191 := Aside0.mk A1910
              clear A1910
              replace H := Option.bind_eq_some_iff.mp H
              obtain ⟨⟨t426, t427, t428, t431, t434, t435, t436, t437⟩, A1920, H⟩ := H
              have A192 := Aside0.mk A1920
              clear A1920
              by_cases c193 : t386 > 0
              ·rw [if_pos c193] at H
               have c193b0 : decide (0 < t386) = true := decide_eq_true c193
               clear c193
               by_cases c194 : t420 = true
               ·subst c194
                rw [if_pos rfl] at H
                by_cases c195 : t434 = true
                ·subst c195
                 rw [if_pos rfl] at H
                 exact absurd H (by simp)
                ·replace c195 := Bool.eq_false_iff.mpr c195
                 subst c195
                 rw [if_neg (show ¬ (false = true) by decide)] at H
                 replace H := Option.bind_eq_some_iff.mp H
                 obtain ⟨t440, A1960, H⟩ := H
                 have A196 := Aside0.mk A1960
                 clear A1960
                 obtain rfl := Option.some.inj H
                 have hnb197 := NB389_369.out
                 have hnc197 := NB369_389.out
                 have hnb198 := NB389_370.out
                 have hnc198 := NB370_389.out
                 have hnb199 := NB389_371.out
                 have hnc199 := NB371_389.out
                 have hnb200 := NB389_388.out
                 have hnc200 := NB388_389.out
                 obtain ⟨hcz201_0, hcz201_1, hcz201_2, hcz201_3⟩ := ce4 BK389
                 obtain ⟨hfz201_0, hfz201_1, hfz201_2, hfz201_3⟩ := fr4 BK389
                 have hnb202 := NB369_370.out
                 have hnc202 := NB370_369.out
                 have hnb203 := NB369_371.out
                 have hnc203 := NB371_369.out
                 have hnb204 := NB369_388.out
                 have hnc204 := NB388_369.out
                 obtain ⟨hcz205_0, hcz205_1, hcz205_2, hcz205_3⟩ := ce4 BK369
                 obtain ⟨hfz205_0, hfz205_1, hfz205_2, hfz205_3⟩ := fr4 BK369
                 have hnb206 := NB388_370.out
                 have hnc206 := NB370_388.out
                 have hnb207 := NB388_371.out
                 have hnc207 := NB371_388.out
                 obtain ⟨hcz208_0, hcz208_1, hcz208_2, hcz208_3⟩ := ce4 BK388
                 obtain ⟨hfz208_0, hfz208_1, hfz208_2, hfz208_3⟩ := fr4 BK388
                 go_wp2_with (first | ((with_reducible refine gate_callee (f := 10) rfl ?_); refine goesL_ (some 168) rfl rfl Try.func10 (by kernel_rfl) rfl #[.agg #[.int .i64 a0_0, .int .i64 a0_1, .int .i64 a0_2, .int .i64 a0_3], .agg #[.int .i64 t376, .int .i64 t377, .slice Ao81 t378.length co81, .slice Ao82 t381.length co82], .int .i64 (wrap64 (t376 + t386)), .int .i64 a2_1] rfl (by (try simp only [List.map_toArray, List.map_cons, List.map_nil]); first | done | rfl | (simp only [List.length_drop, List.length_take]; rfl)) ?_; (with_reducible refine (exact_Ask.calls kj147 a0_0 a0_1 a0_2 a0_3 t376 t377 (fun k_ => (k_ ≠ gb369 ∧ (k_ ≠ gb370 ∧ (k_ ≠ gb371 ∧ (k_ ≠ gb388 ∧ k_ ≠ gb389))))) _ _ t378 (fun k_ => (k_ ≠ gb369 ∧ (k_ ≠ gb370 ∧ (k_ ≠ gb371 ∧ (k_ ≠ gb388 ∧ k_ ≠ gb389))))) _ _ t381 (wrap64 (t376 + t386)) a2_1 t412 t413 t414 t417 true t421 t422 t423 _ ?side1 ?side2 A191.out).mono ?_); (case side1 => exact HO_389002.out); (case side2 => exact HO_389003.out); rintro e w209 ⟨v415, v418, rfl, ho0, ho1, hb⟩; refine ⟨_, rfl, ?_⟩; have HO416 := Aside0.mk (Kd.V_lower (Kd.V_mono (ok' := fun k_ => k_ ≠ gb369 ∧ k_ ≠ gb370 ∧ k_ ≠ gb371 ∧ k_ ≠ gb388 ∧ k_ ≠ gb389) ho0 (fun k_ hk_ => ⟨Or.elim hk_ (fun hs_ => Or.elim hs_ (fun hs_ => hs_.1) (fun hs_ => hs_.1)) (fun hn_ => (Kd.freshB (bo BK369) k_ hn_)), Or.elim hk_ (fun hs_ => Or.elim hs_ (fun hs_ => hs_.2.1) (fun hs_ => hs_.2.1)) (fun hn_ => (Kd.freshB (bo BK370) k_ hn_)), Or.elim hk_ (fun hs_ => Or.elim hs_ (fun hs_ => hs_.2.2.1) (fun hs_ => hs_.2.2.1)) (fun hn_ => (Kd.freshB (bo BK371) k_ hn_)), Or.elim hk_ (fun hs_ => Or.elim hs_ (fun hs_ => hs_.2.2.2.1) (fun hs_ => hs_.2.2.2.1)) (fun hn_ => (Kd.freshB (bo BK388) k_ hn_)), Or.elim hk_ (fun hs_ => Or.elim hs_ (fun hs_ => hs_.2.2.2.2) (fun hs_ => hs_.2.2.2.2)) (fun hn_ => (Kd.freshB (bo BK389) k_ hn_))⟩)) (below_size (bl HB))); have HO419 := Aside0.mk (Kd.V_lower (Kd.V_mono (ok' := fun k_ => k_ ≠ gb369 ∧ k_ ≠ gb370 ∧ k_ ≠ gb371 ∧ k_ ≠ gb388 ∧ k_ ≠ gb389) ho1 (fun k_ hk_ => ⟨Or.elim hk_ (fun hs_ => Or.elim hs_ (fun hs_ => hs_.1) (fun hs_ => hs_.1)) (fun hn_ => (Kd.freshB (bo BK369) k_ hn_)), Or.elim hk_ (fun hs_ => Or.elim hs_ (fun hs_ => hs_.2.1) (fun hs_ => hs_.2.1)) (fun hn_ => (Kd.freshB (bo BK370) k_ hn_)), Or.elim hk_ (fun hs_ => Or.elim hs_ (fun hs_ => hs_.2.2.1) (fun hs_ => hs_.2.2.1)) (fun hn_ => (Kd.freshB (bo BK371) k_ hn_)), Or.elim hk_ (fun hs_ => Or.elim hs_ (fun hs_ => hs_.2.2.2.1) (fun hs_ => hs_.2.2.2.1)) (fun hn_ => (Kd.freshB (bo BK388) k_ hn_)), Or.elim hk_ (fun hs_ => Or.elim hs_ (fun hs_ => hs_.2.2.2.2) (fun hs_ => hs_.2.2.2.2)) (fun hn_ => (Kd.freshB (bo BK389) k_ hn_))⟩)) (below_size (bl HB))); replace HO_389002 := vb HO_389002 hb; replace HO_389003 := vb HO_389003 hb; replace BK369 := Aside0.mk (blk_below (bo BK369) hb); replace BK370 := Aside0.mk (blk_below (bo BK370) hb); replace BK371 := Aside0.mk (blk_below (bo BK371) hb); replace BK388 := Aside0.mk (blk_below (bo BK388) hb); replace BK389 := Aside0.mk (blk_below (bo BK389) hb); replace HB := Aside0.mk (below_step (bl HB) hb); (try clear hb); (try clear hb2); (try clear hk); (try clear hi); (try clear ho0); (try clear ho1)) | ((with_reducible refine gate_dst (N := 13) rfl ?_); (try (refine gate_guard (by rfl) ?_; dsimp only)); refine box_event ?hg (N := 13) ?hd (cs := #[.int .i64 0, .int .i64 0, .slice none 0 0, .slice none 0 0]) (t := 27) ?hr ?_; (case hd => rfl); (case hg => rfl); (case hr => first | (go_simp; done) | (go_simp; rfl)); intro gb424 hg w210 hbox hb; have BK424 := Aside0.mk (hbox); have GW424 := Aside0.mk ((by rw [hg]; exact (below_size (bl HB)) : w.heap.size ≤ gb424)); have GE424 := Aside0.mk ((by rw [hg]; exact (below_size (bl HB)) : w.heap.size ≤ gb424)); have NB369_424 := nb BK369 hg; have NB424_369 := bn BK369 hg; have NB370_424 := nb BK370 hg; have NB424_370 := bn BK370 hg; have NB371_424 := nb BK371 hg; have NB424_371 := bn BK371 hg; have NB388_424 := nb BK388 hg; have NB424_388 := bn BK388 hg; have NB389_424 := nb BK389 hg; have NB424_389 := bn BK389 hg; replace HO_389002 := ve HO_389002 hg hb; replace HO_389003 := ve HO_389003 hg hb; replace HO416 := ve HO416 hg hb; replace HO419 := ve HO419 hg hb; replace BK369 := Aside0.mk (blk_below (bo BK369) hb); replace BK370 := Aside0.mk (blk_below (bo BK370) hb); replace BK371 := Aside0.mk (blk_below (bo BK371) hb); replace BK388 := Aside0.mk (blk_below (bo BK388) hb); replace BK389 := Aside0.mk (blk_below (bo BK389) hb); replace HB := Aside0.mk (below_step (bl HB) hb); clear hb hbox hg) | ((with_reducible refine gate_dst (N := 14) rfl ?_); (try (refine gate_guard (by rfl) ?_; dsimp only)); refine box_event ?hg (N := 14) ?hd (cs := #[.bool false, .int .i64 0, .int .i64 0, .int .i64 0]) (t := 32) ?hr ?_; (case hd => rfl); (case hg => rfl); (case hr => first | (go_simp; done) | (go_simp; rfl)); intro gb425 hg w211 hbox hb; have BK425 := Aside0.mk (hbox); have GW425 := Aside0.mk ((by rw [hg]; exact (below_size (bl HB)) : w.heap.size ≤ gb425)); have GE425 := Aside0.mk ((by rw [hg]; exact (below_size (bl HB)) : w.heap.size ≤ gb425)); have NB369_425 := nb BK369 hg; have NB425_369 := bn BK369 hg; have NB370_425 := nb BK370 hg; have NB425_370 := bn BK370 hg; have NB371_425 := nb BK371 hg; have NB425_371 := bn BK371 hg; have NB388_425 := nb BK388 hg; have NB425_388 := bn BK388 hg; have NB389_425 := nb BK389 hg; have NB425_389 := bn BK389 hg; have NB424_425 := nb BK424 hg; have NB425_424 := bn BK424 hg; replace HO_389002 := ve HO_389002 hg hb; replace HO_389003 := ve HO_389003 hg hb; replace HO416 := ve HO416 hg hb; replace HO419 := ve HO419 hg hb; replace BK369 := Aside0.mk (blk_below (bo BK369) hb); replace BK370 := Aside0.mk (blk_below (bo BK370) hb); replace BK371 := Aside0.mk (blk_below (bo BK371) hb); replace BK388 := Aside0.mk (blk_below (bo BK388) hb); replace BK389 := Aside0.mk (blk_below (bo BK389) hb); replace BK424 := Aside0.mk (blk_below (bo BK424) hb); replace HB := Aside0.mk (below_step (bl HB) hb); clear hb hbox hg; have hnb212 := NB424_369.out; have hnc212 := NB369_424.out; have hnb213 := NB424_370.out; have hnc213 := NB370_424.out; have hnb214 := NB424_371.out; have hnc214 := NB371_424.out; have hnb215 := NB424_388.out; have hnc215 := NB388_424.out; have hnb216 := NB424_389.out; have hnc216 := NB389_424.out; have hnb217 := NB424_425.out; have hnc217 := NB425_424.out; obtain ⟨hcz218_0, hcz218_1, hcz218_2, hcz218_3⟩ := ce4 BK424; obtain ⟨hfz218_0, hfz218_1, hfz218_2, hfz218_3⟩ := fr4 BK424; obtain ⟨Ao219, co219, eo219⟩ := Kd.V_slice HO416.out; subst eo219; obtain ⟨Ao220, co220, eo220⟩ := Kd.V_slice HO419.out; subst eo220) | ((with_reducible refine gate_store (t := 27) (p := 13) rfl ?_); refine store_event (t := 27) (p := 13) (v := ?vo_w221) (w1 := ((((w211.setCell ⟨gb424, 0, none⟩ (.int .i64 t412)).setCell ⟨gb424, 1, none⟩ (.int .i64 t413)).setCell ⟨gb424, 2, none⟩ (.slice Ao219 t414.length co219)).setCell ⟨gb424, 3, none⟩ (.slice Ao220 t417.length co220))) ?hg ?ho ?hn ?hr ?_; (case ho => rfl); (case hg => rfl); (case hn => rfl); (case hr => first | (go_simp; done) | (go_simp; rfl)); intro w221 hw; replace HO_389002 : Aside0 (Kd.V (Kd.int .i64) 3 w221 w.heap.size (fun k_ => k_ ≠ gb369 ∧ k_ ≠ gb370 ∧ k_ ≠ gb371 ∧ k_ ≠ gb388 ∧ k_ ≠ gb389 ∧ k_ ≠ gb424 ∧ k_ ≠ gb425) (.slice Ao81 t378.length co81) t378) := ⟨(by rw [hw]; exact (by (with_reducible repeat (first | apply Kd.V_alloc | apply Kd.V_drewN | apply Kd.V_drew)); exact Kd.V_mono (Kd.V_far (p := ⟨gb424, 3, none⟩) (Kd.V_far (p := ⟨gb424, 2, none⟩) (Kd.V_far (p := ⟨gb424, 1, none⟩) (Kd.V_far (p := ⟨gb424, 0, none⟩) (Kd.V_mono HO_389002.out (fun k_ hk => (⟨hk, hk.1.2⟩ : _ ∧ k_ ≠ gb424))) (fun _ hk => hk.2) (.int .i64 t412)) (fun _ hk => hk.2) (.int .i64 t413)) (fun _ hk => hk.2) (.slice Ao219 t414.length co219)) (fun _ hk => hk.2) (.slice Ao220 t417.length co220)) (fun _ hk => ⟨hk.1.1.1.1, ⟨hk.1.1.1.2.1, ⟨hk.1.1.1.2.2.1, ⟨hk.1.1.1.2.2.2.1, ⟨hk.1.1.1.2.2.2.2, ⟨hk.1.1.2, hk.1.2⟩⟩⟩⟩⟩⟩)))⟩; replace HO_389003 : Aside0 (Kd.V k50 50 w221 w.heap.size (fun k_ => k_ ≠ gb369 ∧ k_ ≠ gb370 ∧ k_ ≠ gb371 ∧ k_ ≠ gb388 ∧ k_ ≠ gb389 ∧ k_ ≠ gb424 ∧ k_ ≠ gb425) (.slice Ao82 t381.length co82) t381) := ⟨(by rw [hw]; exact (by (with_reducible repeat (first | apply Kd.V_alloc | apply Kd.V_drewN | apply Kd.V_drew)); exact Kd.V_mono (Kd.V_far (p := ⟨gb424, 3, none⟩) (Kd.V_far (p := ⟨gb424, 2, none⟩) (Kd.V_far (p := ⟨gb424, 1, none⟩) (Kd.V_far (p := ⟨gb424, 0, none⟩) (Kd.V_mono HO_389003.out (fun k_ hk => (⟨hk, hk.1.2⟩ : _ ∧ k_ ≠ gb424))) (fun _ hk => hk.2) (.int .i64 t412)) (fun _ hk => hk.2) (.int .i64 t413)) (fun _ hk => hk.2) (.slice Ao219 t414.length co219)) (fun _ hk => hk.2) (.slice Ao220 t417.length co220)) (fun _ hk => ⟨hk.1.1.1.1, ⟨hk.1.1.1.2.1, ⟨hk.1.1.1.2.2.1, ⟨hk.1.1.1.2.2.2.1, ⟨hk.1.1.1.2.2.2.2, ⟨hk.1.1.2, hk.1.2⟩⟩⟩⟩⟩⟩)))⟩; replace HO416 : Aside0 (Kd.V (Kd.int .i64) 3 w221 w.heap.size (fun k_ => k_ ≠ gb369 ∧ k_ ≠ gb370 ∧ k_ ≠ gb371 ∧ k_ ≠ gb388 ∧ k_ ≠ gb389 ∧ k_ ≠ gb424 ∧ k_ ≠ gb425) (.slice Ao219 t414.length co219) t414) := ⟨(by rw [hw]; exact (by (with_reducible repeat (first | apply Kd.V_alloc | apply Kd.V_drewN | apply Kd.V_drew)); exact Kd.V_mono (Kd.V_far (p := ⟨gb424, 3, none⟩) (Kd.V_far (p := ⟨gb424, 2, none⟩) (Kd.V_far (p := ⟨gb424, 1, none⟩) (Kd.V_far (p := ⟨gb424, 0, none⟩) (Kd.V_mono HO416.out (fun k_ hk => (⟨hk, hk.1.2⟩ : _ ∧ k_ ≠ gb424))) (fun _ hk => hk.2) (.int .i64 t412)) (fun _ hk => hk.2) (.int .i64 t413)) (fun _ hk => hk.2) (.slice Ao219 t414.length co219)) (fun _ hk => hk.2) (.slice Ao220 t417.length co220)) (fun _ hk => ⟨hk.1.1.1.1, ⟨hk.1.1.1.2.1, ⟨hk.1.1.1.2.2.1, ⟨hk.1.1.1.2.2.2.1, ⟨hk.1.1.1.2.2.2.2, ⟨hk.1.1.2, hk.1.2⟩⟩⟩⟩⟩⟩)))⟩; replace HO419 : Aside0 (Kd.V k50 50 w221 w.heap.size (fun k_ => k_ ≠ gb369 ∧ k_ ≠ gb370 ∧ k_ ≠ gb371 ∧ k_ ≠ gb388 ∧ k_ ≠ gb389 ∧ k_ ≠ gb424 ∧ k_ ≠ gb425) (.slice Ao220 t417.length co220) t417) := ⟨(by rw [hw]; exact (by (with_reducible repeat (first | apply Kd.V_alloc | apply Kd.V_drewN | apply Kd.V_drew)); exact Kd.V_mono (Kd.V_far (p := ⟨gb424, 3, none⟩) (Kd.V_far (p := ⟨gb424, 2, none⟩) (Kd.V_far (p := ⟨gb424, 1, none⟩) (Kd.V_far (p := ⟨gb424, 0, none⟩) (Kd.V_mono HO419.out (fun k_ hk => (⟨hk, hk.1.2⟩ : _ ∧ k_ ≠ gb424))) (fun _ hk => hk.2) (.int .i64 t412)) (fun _ hk => hk.2) (.int .i64 t413)) (fun _ hk => hk.2) (.slice Ao219 t414.length co219)) (fun _ hk => hk.2) (.slice Ao220 t417.length co220)) (fun _ hk => ⟨hk.1.1.1.1, ⟨hk.1.1.1.2.1, ⟨hk.1.1.1.2.2.1, ⟨hk.1.1.1.2.2.2.1, ⟨hk.1.1.1.2.2.2.2, ⟨hk.1.1.2, hk.1.2⟩⟩⟩⟩⟩⟩)))⟩; replace BK369 : Aside0 (w221.heap[gb369]? = some (.cells #[.int .i64 a0_0, .int .i64 a0_1, .int .i64 a0_2, .int .i64 a0_3] 23 (0, 0))) := ⟨(by rw [hw]; exact (by (with_reducible repeat (first | refine blk_drewN ?_ _ | refine blk_drew ?_ | refine blk_alloc ?_ _)); refine blk_far ?_ NB369_424.out _; (with_reducible repeat (first | refine blk_drewN ?_ _ | refine blk_drew ?_ | refine blk_alloc ?_ _)); refine blk_far ?_ NB369_424.out _; (with_reducible repeat (first | refine blk_drewN ?_ _ | refine blk_drew ?_ | refine blk_alloc ?_ _)); refine blk_far ?_ NB369_424.out _; (with_reducible repeat (first | refine blk_drewN ?_ _ | refine blk_drew ?_ | refine blk_alloc ?_ _)); refine blk_far ?_ NB369_424.out _; (with_reducible repeat (first | refine blk_drewN ?_ _ | refine blk_drew ?_ | refine blk_alloc ?_ _)); exact BK369.out))⟩; replace BK370 : Aside0 (w221.heap[gb370]? = some (.cells #[.int .i64 a1_0, .int .i64 a1_1, .slice A1_2 l1_2.length c1_2, .slice A1_3 l1_3.length c1_3] 27 (0, 0))) := ⟨(by rw [hw]; exact (by (with_reducible repeat (first | refine blk_drewN ?_ _ | refine blk_drew ?_ | refine blk_alloc ?_ _)); refine blk_far ?_ NB370_424.out _; (with_reducible repeat (first | refine blk_drewN ?_ _ | refine blk_drew ?_ | refine blk_alloc ?_ _)); refine blk_far ?_ NB370_424.out _; (with_reducible repeat (first | refine blk_drewN ?_ _ | refine blk_drew ?_ | refine blk_alloc ?_ _)); refine blk_far ?_ NB370_424.out _; (with_reducible repeat (first | refine blk_drewN ?_ _ | refine blk_drew ?_ | refine blk_alloc ?_ _)); refine blk_far ?_ NB370_424.out _; (with_reducible repeat (first | refine blk_drewN ?_ _ | refine blk_drew ?_ | refine blk_alloc ?_ _)); exact BK370.out))⟩; replace BK371 : Aside0 (w221.heap[gb371]? = some (.cells #[.int .i64 a2_0, .int .i64 a2_1] 28 (0, 0))) := ⟨(by rw [hw]; exact (by (with_reducible repeat (first | refine blk_drewN ?_ _ | refine blk_drew ?_ | refine blk_alloc ?_ _)); refine blk_far ?_ NB371_424.out _; (with_reducible repeat (first | refine blk_drewN ?_ _ | refine blk_drew ?_ | refine blk_alloc ?_ _)); refine blk_far ?_ NB371_424.out _; (with_reducible repeat (first | refine blk_drewN ?_ _ | refine blk_drew ?_ | refine blk_alloc ?_ _)); refine blk_far ?_ NB371_424.out _; (with_reducible repeat (first | refine blk_drewN ?_ _ | refine blk_drew ?_ | refine blk_alloc ?_ _)); refine blk_far ?_ NB371_424.out _; (with_reducible repeat (first | refine blk_drewN ?_ _ | refine blk_drew ?_ | refine blk_alloc ?_ _)); exact BK371.out))⟩; replace BK388 : Aside0 (w221.heap[gb388]? = some (.cells #[.int .i64 t376, .int .i64 t377, .slice Ao81 t378.length co81, .slice Ao82 t381.length co82] 27 (0, 0))) := ⟨(by rw [hw]; exact (by (with_reducible repeat (first | refine blk_drewN ?_ _ | refine blk_drew ?_ | refine blk_alloc ?_ _)); refine blk_far ?_ NB388_424.out _; (with_reducible repeat (first | refine blk_drewN ?_ _ | refine blk_drew ?_ | refine blk_alloc ?_ _)); refine blk_far ?_ NB388_424.out _; (with_reducible repeat (first | refine blk_drewN ?_ _ | refine blk_drew ?_ | refine blk_alloc ?_ _)); refine blk_far ?_ NB388_424.out _; (with_reducible repeat (first | refine blk_drewN ?_ _ | refine blk_drew ?_ | refine blk_alloc ?_ _)); refine blk_far ?_ NB388_424.out _; (with_reducible repeat (first | refine blk_drewN ?_ _ | refine blk_drew ?_ | refine blk_alloc ?_ _)); exact BK388.out))⟩; replace BK389 : Aside0 (w221.heap[gb389]? = some (.cells #[.bool false, .int .i64 t385, .int .i64 t386, .int .i64 t387] 32 (0, 0))) := ⟨(by rw [hw]; exact (by (with_reducible repeat (first | refine blk_drewN ?_ _ | refine blk_drew ?_ | refine blk_alloc ?_ _)); refine blk_far ?_ NB389_424.out _; (with_reducible repeat (first | refine blk_drewN ?_ _ | refine blk_drew ?_ | refine blk_alloc ?_ _)); refine blk_far ?_ NB389_424.out _; (with_reducible repeat (first | refine blk_drewN ?_ _ | refine blk_drew ?_ | refine blk_alloc ?_ _)); refine blk_far ?_ NB389_424.out _; (with_reducible repeat (first | refine blk_drewN ?_ _ | refine blk_drew ?_ | refine blk_alloc ?_ _)); refine blk_far ?_ NB389_424.out _; (with_reducible repeat (first | refine blk_drewN ?_ _ | refine blk_drew ?_ | refine blk_alloc ?_ _)); exact BK389.out))⟩; replace BK424 : Aside0 (w221.heap[gb424]? = some (.cells #[.int .i64 t412, .int .i64 t413, .slice Ao219 t414.length co219, .slice Ao220 t417.length co220] 27 (0, 0))) := ⟨(by rw [hw]; exact (by (with_reducible repeat (first | refine blk_drewN ?_ _ | refine blk_drew ?_ | refine blk_alloc ?_ _)); refine blk_put (cs := #[.int .i64 t412, .int .i64 t413, .slice Ao219 t414.length co219, .slice none 0 0]) ?_ 3 _ rfl; (with_reducible repeat (first | refine blk_drewN ?_ _ | refine blk_drew ?_ | refine blk_alloc ?_ _)); refine blk_put (cs := #[.int .i64 t412, .int .i64 t413, .slice none 0 0, .slice none 0 0]) ?_ 2 _ rfl; (with_reducible repeat (first | refine blk_drewN ?_ _ | refine blk_drew ?_ | refine blk_alloc ?_ _)); refine blk_put (cs := #[.int .i64 t412, .int .i64 0, .slice none 0 0, .slice none 0 0]) ?_ 1 _ rfl; (with_reducible repeat (first | refine blk_drewN ?_ _ | refine blk_drew ?_ | refine blk_alloc ?_ _)); refine blk_put (cs := #[.int .i64 0, .int .i64 0, .slice none 0 0, .slice none 0 0]) ?_ 0 _ rfl; (with_reducible repeat (first | refine blk_drewN ?_ _ | refine blk_drew ?_ | refine blk_alloc ?_ _)); exact BK424.out))⟩; replace BK425 : Aside0 (w221.heap[gb425]? = some (.cells #[.bool false, .int .i64 0, .int .i64 0, .int .i64 0] 32 (0, 0))) := ⟨(by rw [hw]; exact (by (with_reducible repeat (first | refine blk_drewN ?_ _ | refine blk_drew ?_ | refine blk_alloc ?_ _)); refine blk_far ?_ NB425_424.out _; (with_reducible repeat (first | refine blk_drewN ?_ _ | refine blk_drew ?_ | refine blk_alloc ?_ _)); refine blk_far ?_ NB425_424.out _; (with_reducible repeat (first | refine blk_drewN ?_ _ | refine blk_drew ?_ | refine blk_alloc ?_ _)); refine blk_far ?_ NB425_424.out _; (with_reducible repeat (first | refine blk_drewN ?_ _ | refine blk_drew ?_ | refine blk_alloc ?_ _)); refine blk_far ?_ NB425_424.out _; (with_reducible repeat (first | refine blk_drewN ?_ _ | refine blk_drew ?_ | refine blk_alloc ?_ _)); exact BK425.out))⟩; replace HB : Aside0 (Below w.heap.size w w221) := ⟨(by rw [hw]; exact (bl HB))⟩; clear hw; have hnb222 := NB425_369.out; have hnc222 := NB369_425.out; have hnb223 := NB425_370.out; have hnc223 := NB370_425.out; have hnb224 := NB425_371.out; have hnc224 := NB371_425.out; have hnb225 := NB425_388.out; have hnc225 := NB388_425.out; have hnb226 := NB425_389.out; have hnc226 := NB389_425.out; obtain ⟨hcz227_0, hcz227_1, hcz227_2, hcz227_3⟩ := ce4 BK425; obtain ⟨hfz227_0, hfz227_1, hfz227_2, hfz227_3⟩ := fr4 BK425) | ((with_reducible refine gate_store (t := 32) (p := 14) rfl ?_); refine store_event (t := 32) (p := 14) (v := ?vo_w228) (w1 := ((((w221.setCell ⟨gb425, 0, none⟩ (.bool true)).setCell ⟨gb425, 1, none⟩ (.int .i64 t421)).setCell ⟨gb425, 2, none⟩ (.int .i64 t422)).setCell ⟨gb425, 3, none⟩ (.int .i64 t423))) ?hg ?ho ?hn ?hr ?_; (case ho => rfl); (case hg => rfl); (case hn => rfl); (case hr => first | (go_simp; done) | (go_simp; rfl)); intro w228 hw; replace HO_389002 : Aside0 (Kd.V (Kd.int .i64) 3 w228 w.heap.size (fun k_ => k_ ≠ gb369 ∧ k_ ≠ gb370 ∧ k_ ≠ gb371 ∧ k_ ≠ gb388 ∧ k_ ≠ gb389 ∧ k_ ≠ gb424 ∧ k_ ≠ gb425) (.slice Ao81 t378.length co81) t378) := ⟨(by rw [hw]; exact (by (with_reducible repeat (first | apply Kd.V_alloc | apply Kd.V_drewN | apply Kd.V_drew)); exact Kd.V_mono (Kd.V_far (p := ⟨gb425, 3, none⟩) (Kd.V_far (p := ⟨gb425, 2, none⟩) (Kd.V_far (p := ⟨gb425, 1, none⟩) (Kd.V_far (p := ⟨gb425, 0, none⟩) (Kd.V_mono HO_389002.out (fun k_ hk => (⟨hk, hk.2.2.2.2.2.2⟩ : _ ∧ k_ ≠ gb425))) (fun _ hk => hk.2) (.bool true)) (fun _ hk => hk.2) (.int .i64 t421)) (fun _ hk => hk.2) (.int .i64 t422)) (fun _ hk => hk.2) (.int .i64 t423)) (fun _ hk => ⟨hk.1.1, ⟨hk.1.2.1, ⟨hk.1.2.2.1, ⟨hk.1.2.2.2.1, ⟨hk.1.2.2.2.2.1, ⟨hk.1.2.2.2.2.2.1, hk.1.2.2.2.2.2.2⟩⟩⟩⟩⟩⟩)))⟩; replace HO_389003 : Aside0 (Kd.V k50 50 w228 w.heap.size (fun k_ => k_ ≠ gb369 ∧ k_ ≠ gb370 ∧ k_ ≠ gb371 ∧ k_ ≠ gb388 ∧ k_ ≠ gb389 ∧ k_ ≠ gb424 ∧ k_ ≠ gb425) (.slice Ao82 t381.length co82) t381) := ⟨(by rw [hw]; exact (by (with_reducible repeat (first | apply Kd.V_alloc | apply Kd.V_drewN | apply Kd.V_drew)); exact Kd.V_mono (Kd.V_far (p := ⟨gb425, 3, none⟩) (Kd.V_far (p := ⟨gb425, 2, none⟩) (Kd.V_far (p := ⟨gb425, 1, none⟩) (Kd.V_far (p := ⟨gb425, 0, none⟩) (Kd.V_mono HO_389003.out (fun k_ hk => (⟨hk, hk.2.2.2.2.2.2⟩ : _ ∧ k_ ≠ gb425))) (fun _ hk => hk.2) (.bool true)) (fun _ hk => hk.2) (.int .i64 t421)) (fun _ hk => hk.2) (.int .i64 t422)) (fun _ hk => hk.2) (.int .i64 t423)) (fun _ hk => ⟨hk.1.1, ⟨hk.1.2.1, ⟨hk.1.2.2.1, ⟨hk.1.2.2.2.1, ⟨hk.1.2.2.2.2.1, ⟨hk.1.2.2.2.2.2.1, hk.1.2.2.2.2.2.2⟩⟩⟩⟩⟩⟩)))⟩; replace HO416 : Aside0 (Kd.V (Kd.int .i64) 3 w228 w.heap.size (fun k_ => k_ ≠ gb369 ∧ k_ ≠ gb370 ∧ k_ ≠ gb371 ∧ k_ ≠ gb388 ∧ k_ ≠ gb389 ∧ k_ ≠ gb424 ∧ k_ ≠ gb425) (.slice Ao219 t414.length co219) t414) := ⟨(by rw [hw]; exact (by (with_reducible repeat (first | apply Kd.V_alloc | apply Kd.V_drewN | apply Kd.V_drew)); exact Kd.V_mono (Kd.V_far (p := ⟨gb425, 3, none⟩) (Kd.V_far (p := ⟨gb425, 2, none⟩) (Kd.V_far (p := ⟨gb425, 1, none⟩) (Kd.V_far (p := ⟨gb425, 0, none⟩) (Kd.V_mono HO416.out (fun k_ hk => (⟨hk, hk.2.2.2.2.2.2⟩ : _ ∧ k_ ≠ gb425))) (fun _ hk => hk.2) (.bool true)) (fun _ hk => hk.2) (.int .i64 t421)) (fun _ hk => hk.2) (.int .i64 t422)) (fun _ hk => hk.2) (.int .i64 t423)) (fun _ hk => ⟨hk.1.1, ⟨hk.1.2.1, ⟨hk.1.2.2.1, ⟨hk.1.2.2.2.1, ⟨hk.1.2.2.2.2.1, ⟨hk.1.2.2.2.2.2.1, hk.1.2.2.2.2.2.2⟩⟩⟩⟩⟩⟩)))⟩; replace HO419 : Aside0 (Kd.V k50 50 w228 w.heap.size (fun k_ => k_ ≠ gb369 ∧ k_ ≠ gb370 ∧ k_ ≠ gb371 ∧ k_ ≠ gb388 ∧ k_ ≠ gb389 ∧ k_ ≠ gb424 ∧ k_ ≠ gb425) (.slice Ao220 t417.length co220) t417) := ⟨(by rw [hw]; exact (by (with_reducible repeat (first | apply Kd.V_alloc | apply Kd.V_drewN | apply Kd.V_drew)); exact Kd.V_mono (Kd.V_far (p := ⟨gb425, 3, none⟩) (Kd.V_far (p := ⟨gb425, 2, none⟩) (Kd.V_far (p := ⟨gb425, 1, none⟩) (Kd.V_far (p := ⟨gb425, 0, none⟩) (Kd.V_mono HO419.out (fun k_ hk => (⟨hk, hk.2.2.2.2.2.2⟩ : _ ∧ k_ ≠ gb425))) (fun _ hk => hk.2) (.bool true)) (fun _ hk => hk.2) (.int .i64 t421)) (fun _ hk => hk.2) (.int .i64 t422)) (fun _ hk => hk.2) (.int .i64 t423)) (fun _ hk => ⟨hk.1.1, ⟨hk.1.2.1, ⟨hk.1.2.2.1, ⟨hk.1.2.2.2.1, ⟨hk.1.2.2.2.2.1, ⟨hk.1.2.2.2.2.2.1, hk.1.2.2.2.2.2.2⟩⟩⟩⟩⟩⟩)))⟩; replace BK369 : Aside0 (w228.heap[gb369]? = some (.cells #[.int .i64 a0_0, .int .i64 a0_1, .int .i64 a0_2, .int .i64 a0_3] 23 (0, 0))) := ⟨(by rw [hw]; exact (by (with_reducible repeat (first | refine blk_drewN ?_ _ | refine blk_drew ?_ | refine blk_alloc ?_ _)); refine blk_far ?_ NB369_425.out _; (with_reducible repeat (first | refine blk_drewN ?_ _ | refine blk_drew ?_ | refine blk_alloc ?_ _)); refine blk_far ?_ NB369_425.out _; (with_reducible repeat (first | refine blk_drewN ?_ _ | refine blk_drew ?_ | refine blk_alloc ?_ _)); refine blk_far ?_ NB369_425.out _; (with_reducible repeat (first | refine blk_drewN ?_ _ | refine blk_drew ?_ | refine blk_alloc ?_ _)); refine blk_far ?_ NB369_425.out _; (with_reducible repeat (first | refine blk_drewN ?_ _ | refine blk_drew ?_ | refine blk_alloc ?_ _)); exact BK369.out))⟩; replace BK370 : Aside0 (w228.heap[gb370]? = some (.cells #[.int .i64 a1_0, .int .i64 a1_1, .slice A1_2 l1_2.length c1_2, .slice A1_3 l1_3.length c1_3] 27 (0, 0))) := ⟨(by rw [hw]; exact (by (with_reducible repeat (first | refine blk_drewN ?_ _ | refine blk_drew ?_ | refine blk_alloc ?_ _)); refine blk_far ?_ NB370_425.out _; (with_reducible repeat (first | refine blk_drewN ?_ _ | refine blk_drew ?_ | refine blk_alloc ?_ _)); refine blk_far ?_ NB370_425.out _; (with_reducible repeat (first | refine blk_drewN ?_ _ | refine blk_drew ?_ | refine blk_alloc ?_ _)); refine blk_far ?_ NB370_425.out _; (with_reducible repeat (first | refine blk_drewN ?_ _ | refine blk_drew ?_ | refine blk_alloc ?_ _)); refine blk_far ?_ NB370_425.out _; (with_reducible repeat (first | refine blk_drewN ?_ _ | refine blk_drew ?_ | refine blk_alloc ?_ _)); exact BK370.out))⟩; replace BK371 : Aside0 (w228.heap[gb371]? = some (.cells #[.int .i64 a2_0, .int .i64 a2_1] 28 (0, 0))) := ⟨(by rw [hw]; exact (by (with_reducible repeat (first | refine blk_drewN ?_ _ | refine blk_drew ?_ | refine blk_alloc ?_ _)); refine blk_far ?_ NB371_425.out _; (with_reducible repeat (first | refine blk_drewN ?_ _ | refine blk_drew ?_ | refine blk_alloc ?_ _)); refine blk_far ?_ NB371_425.out _; (with_reducible repeat (first | refine blk_drewN ?_ _ | refine blk_drew ?_ | refine blk_alloc ?_ _)); refine blk_far ?_ NB371_425.out _; (with_reducible repeat (first | refine blk_drewN ?_ _ | refine blk_drew ?_ | refine blk_alloc ?_ _)); refine blk_far ?_ NB371_425.out _; (with_reducible repeat (first | refine blk_drewN ?_ _ | refine blk_drew ?_ | refine blk_alloc ?_ _)); exact BK371.out))⟩; replace BK388 : Aside0 (w228.heap[gb388]? = some (.cells #[.int .i64 t376, .int .i64 t377, .slice Ao81 t378.length co81, .slice Ao82 t381.length co82] 27 (0, 0))) := ⟨(by rw [hw]; exact (by (with_reducible repeat (first | refine blk_drewN ?_ _ | refine blk_drew ?_ | refine blk_alloc ?_ _)); refine blk_far ?_ NB388_425.out _; (with_reducible repeat (first | refine blk_drewN ?_ _ | refine blk_drew ?_ | refine blk_alloc ?_ _)); refine blk_far ?_ NB388_425.out _; (with_reducible repeat (first | refine blk_drewN ?_ _ | refine blk_drew ?_ | refine blk_alloc ?_ _)); refine blk_far ?_ NB388_425.out _; (with_reducible repeat (first | refine blk_drewN ?_ _ | refine blk_drew ?_ | refine blk_alloc ?_ _)); refine blk_far ?_ NB388_425.out _; (with_reducible repeat (first | refine blk_drewN ?_ _ | refine blk_drew ?_ | refine blk_alloc ?_ _)); exact BK388.out))⟩; replace BK389 : Aside0 (w228.heap[gb389]? = some (.cells #[.bool false, .int .i64 t385, .int .i64 t386, .int .i64 t387] 32 (0, 0))) := ⟨(by rw [hw]; exact (by (with_reducible repeat (first | refine blk_drewN ?_ _ | refine blk_drew ?_ | refine blk_alloc ?_ _)); refine blk_far ?_ NB389_425.out _; (with_reducible repeat (first | refine blk_drewN ?_ _ | refine blk_drew ?_ | refine blk_alloc ?_ _)); refine blk_far ?_ NB389_425.out _; (with_reducible repeat (first | refine blk_drewN ?_ _ | refine blk_drew ?_ | refine blk_alloc ?_ _)); refine blk_far ?_ NB389_425.out _; (with_reducible repeat (first | refine blk_drewN ?_ _ | refine blk_drew ?_ | refine blk_alloc ?_ _)); refine blk_far ?_ NB389_425.out _; (with_reducible repeat (first | refine blk_drewN ?_ _ | refine blk_drew ?_ | refine blk_alloc ?_ _)); exact BK389.out))⟩; replace BK424 : Aside0 (w228.heap[gb424]? = some (.cells #[.int .i64 t412, .int .i64 t413, .slice Ao219 t414.length co219, .slice Ao220 t417.length co220] 27 (0, 0))) := ⟨(by rw [hw]; exact (by (with_reducible repeat (first | refine blk_drewN ?_ _ | refine blk_drew ?_ | refine blk_alloc ?_ _)); refine blk_far ?_ NB424_425.out _; (with_reducible repeat (first | refine blk_drewN ?_ _ | refine blk_drew ?_ | refine blk_alloc ?_ _)); refine blk_far ?_ NB424_425.out _; (with_reducible repeat (first | refine blk_drewN ?_ _ | refine blk_drew ?_ | refine blk_alloc ?_ _)); refine blk_far ?_ NB424_425.out _; (with_reducible repeat (first | refine blk_drewN ?_ _ | refine blk_drew ?_ | refine blk_alloc ?_ _)); refine blk_far ?_ NB424_425.out _; (with_reducible repeat (first | refine blk_drewN ?_ _ | refine blk_drew ?_ | refine blk_alloc ?_ _)); exact BK424.out))⟩; replace BK425 : Aside0 (w228.heap[gb425]? = some (.cells #[.bool true, .int .i64 t421, .int .i64 t422, .int .i64 t423] 32 (0, 0))) := ⟨(by rw [hw]; exact (by (with_reducible repeat (first | refine blk_drewN ?_ _ | refine blk_drew ?_ | refine blk_alloc ?_ _)); refine blk_put (cs := #[.bool true, .int .i64 t421, .int .i64 t422, .int .i64 0]) ?_ 3 _ rfl; (with_reducible repeat (first | refine blk_drewN ?_ _ | refine blk_drew ?_ | refine blk_alloc ?_ _)); refine blk_put (cs := #[.bool true, .int .i64 t421, .int .i64 0, .int .i64 0]) ?_ 2 _ rfl; (with_reducible repeat (first | refine blk_drewN ?_ _ | refine blk_drew ?_ | refine blk_alloc ?_ _)); refine blk_put (cs := #[.bool true, .int .i64 0, .int .i64 0, .int .i64 0]) ?_ 1 _ rfl; (with_reducible repeat (first | refine blk_drewN ?_ _ | refine blk_drew ?_ | refine blk_alloc ?_ _)); refine blk_put (cs := #[.bool false, .int .i64 0, .int .i64 0, .int .i64 0]) ?_ 0 _ rfl; (with_reducible repeat (first | refine blk_drewN ?_ _ | refine blk_drew ?_ | refine blk_alloc ?_ _)); exact BK425.out))⟩; replace HB : Aside0 (Below w.heap.size w w228) := ⟨(by rw [hw]; exact (bl HB))⟩; clear hw; obtain ⟨hcz229_0, hcz229_1, hcz229_2, hcz229_3⟩ := ce4 BK369; obtain ⟨hfz229_0, hfz229_1, hfz229_2, hfz229_3⟩ := fr4 BK369; obtain ⟨hcz230_0, hcz230_1, hcz230_2, hcz230_3⟩ := ce4 BK388; obtain ⟨hfz230_0, hfz230_1, hfz230_2, hfz230_3⟩ := fr4 BK388; obtain ⟨hcz231_0, hcz231_1, hcz231_2, hcz231_3⟩ := ce4 BK389; obtain ⟨hfz231_0, hfz231_1, hfz231_2, hfz231_3⟩ := fr4 BK389) | ((with_reducible refine gate_callee (f := 10) rfl ?_); refine goesL_ (some 181) rfl rfl Try.func10 (by kernel_rfl) rfl #[.agg #[.int .i64 a0_0, .int .i64 a0_1, .int .i64 a0_2, .int .i64 a0_3], .agg #[.int .i64 t376, .int .i64 t377, .slice Ao81 t378.length co81, .slice Ao82 t381.length co82], .int .i64 (wrap64 ((wrap64 (t376 + t386)) - 1)), .int .i64 a2_1] rfl (by (try simp only [List.map_toArray, List.map_cons, List.map_nil]); first | done | rfl | (simp only [List.length_drop, List.length_take]; rfl)) ?_; (with_reducible refine (exact_Ask.calls kj147 a0_0 a0_1 a0_2 a0_3 t376 t377 (fun k_ => (k_ ≠ gb369 ∧ (k_ ≠ gb370 ∧ (k_ ≠ gb371 ∧ (k_ ≠ gb388 ∧ (k_ ≠ gb389 ∧ (k_ ≠ gb424 ∧ k_ ≠ gb425))))))) _ _ t378 (fun k_ => (k_ ≠ gb369 ∧ (k_ ≠ gb370 ∧ (k_ ≠ gb371 ∧ (k_ ≠ gb388 ∧ (k_ ≠ gb389 ∧ (k_ ≠ gb424 ∧ k_ ≠ gb425))))))) _ _ t381 (wrap64 ((wrap64 (t376 + t386)) - 1)) a2_1 t426 t427 t428 t431 false t435 t436 t437 _ ?side1 ?side2 A192.out).mono ?_); (case side1 => exact HO_389002.out); (case side2 => exact HO_389003.out); rintro e w232 ⟨v429, v432, rfl, ho0, ho1, hb⟩; refine ⟨_, rfl, ?_⟩; have HO430 := Aside0.mk (Kd.V_lower (Kd.V_mono (ok' := fun k_ => k_ ≠ gb369 ∧ k_ ≠ gb370 ∧ k_ ≠ gb371 ∧ k_ ≠ gb388 ∧ k_ ≠ gb389 ∧ k_ ≠ gb424 ∧ k_ ≠ gb425) ho0 (fun k_ hk_ => ⟨Or.elim hk_ (fun hs_ => Or.elim hs_ (fun hs_ => hs_.1) (fun hs_ => hs_.1)) (fun hn_ => (Kd.freshB (bo BK369) k_ hn_)), Or.elim hk_ (fun hs_ => Or.elim hs_ (fun hs_ => hs_.2.1) (fun hs_ => hs_.2.1)) (fun hn_ => (Kd.freshB (bo BK370) k_ hn_)), Or.elim hk_ (fun hs_ => Or.elim hs_ (fun hs_ => hs_.2.2.1) (fun hs_ => hs_.2.2.1)) (fun hn_ => (Kd.freshB (bo BK371) k_ hn_)), Or.elim hk_ (fun hs_ => Or.elim hs_ (fun hs_ => hs_.2.2.2.1) (fun hs_ => hs_.2.2.2.1)) (fun hn_ => (Kd.freshB (bo BK388) k_ hn_)), Or.elim hk_ (fun hs_ => Or.elim hs_ (fun hs_ => hs_.2.2.2.2.1) (fun hs_ => hs_.2.2.2.2.1)) (fun hn_ => (Kd.freshB (bo BK389) k_ hn_)), Or.elim hk_ (fun hs_ => Or.elim hs_ (fun hs_ => hs_.2.2.2.2.2.1) (fun hs_ => hs_.2.2.2.2.2.1)) (fun hn_ => (Kd.freshB (bo BK424) k_ hn_)), Or.elim hk_ (fun hs_ => Or.elim hs_ (fun hs_ => hs_.2.2.2.2.2.2) (fun hs_ => hs_.2.2.2.2.2.2)) (fun hn_ => (Kd.freshB (bo BK425) k_ hn_))⟩)) (below_size (bl HB))); have HO433 := Aside0.mk (Kd.V_lower (Kd.V_mono (ok' := fun k_ => k_ ≠ gb369 ∧ k_ ≠ gb370 ∧ k_ ≠ gb371 ∧ k_ ≠ gb388 ∧ k_ ≠ gb389 ∧ k_ ≠ gb424 ∧ k_ ≠ gb425) ho1 (fun k_ hk_ => ⟨Or.elim hk_ (fun hs_ => Or.elim hs_ (fun hs_ => hs_.1) (fun hs_ => hs_.1)) (fun hn_ => (Kd.freshB (bo BK369) k_ hn_)), Or.elim hk_ (fun hs_ => Or.elim hs_ (fun hs_ => hs_.2.1) (fun hs_ => hs_.2.1)) (fun hn_ => (Kd.freshB (bo BK370) k_ hn_)), Or.elim hk_ (fun hs_ => Or.elim hs_ (fun hs_ => hs_.2.2.1) (fun hs_ => hs_.2.2.1)) (fun hn_ => (Kd.freshB (bo BK371) k_ hn_)), Or.elim hk_ (fun hs_ => Or.elim hs_ (fun hs_ => hs_.2.2.2.1) (fun hs_ => hs_.2.2.2.1)) (fun hn_ => (Kd.freshB (bo BK388) k_ hn_)), Or.elim hk_ (fun hs_ => Or.elim hs_ (fun hs_ => hs_.2.2.2.2.1) (fun hs_ => hs_.2.2.2.2.1)) (fun hn_ => (Kd.freshB (bo BK389) k_ hn_)), Or.elim hk_ (fun hs_ => Or.elim hs_ (fun hs_ => hs_.2.2.2.2.2.1) (fun hs_ => hs_.2.2.2.2.2.1)) (fun hn_ => (Kd.freshB (bo BK424) k_ hn_)), Or.elim hk_ (fun hs_ => Or.elim hs_ (fun hs_ => hs_.2.2.2.2.2.2) (fun hs_ => hs_.2.2.2.2.2.2)) (fun hn_ => (Kd.freshB (bo BK425) k_ hn_))⟩)) (below_size (bl HB))); replace HO_389002 := vb HO_389002 hb; replace HO_389003 := vb HO_389003 hb; replace HO416 := vb HO416 hb; replace HO419 := vb HO419 hb; replace BK369 := Aside0.mk (blk_below (bo BK369) hb); replace BK370 := Aside0.mk (blk_below (bo BK370) hb); replace BK371 := Aside0.mk (blk_below (bo BK371) hb); replace BK388 := Aside0.mk (blk_below (bo BK388) hb); replace BK389 := Aside0.mk (blk_below (bo BK389) hb); replace BK424 := Aside0.mk (blk_below (bo BK424) hb); replace BK425 := Aside0.mk (blk_below (bo BK425) hb); replace HB := Aside0.mk (below_step (bl HB) hb); (try clear hb); (try clear hb2); (try clear hk); (try clear hi); (try clear ho0); (try clear ho1)) | ((with_reducible refine gate_dst (N := 15) rfl ?_); (try (refine gate_guard (by rfl) ?_; dsimp only)); refine box_event ?hg (N := 15) ?hd (cs := #[.int .i64 0, .int .i64 0, .slice none 0 0, .slice none 0 0]) (t := 27) ?hr ?_; (case hd => rfl); (case hg => rfl); (case hr => first | (go_simp; done) | (go_simp; rfl)); intro gb438 hg w233 hbox hb; have BK438 := Aside0.mk (hbox); have GW438 := Aside0.mk ((by rw [hg]; exact (below_size (bl HB)) : w.heap.size ≤ gb438)); have GE438 := Aside0.mk ((by rw [hg]; exact (below_size (bl HB)) : w.heap.size ≤ gb438)); have NB369_438 := nb BK369 hg; have NB438_369 := bn BK369 hg; have NB370_438 := nb BK370 hg; have NB438_370 := bn BK370 hg; have NB371_438 := nb BK371 hg; have NB438_371 := bn BK371 hg; have NB388_438 := nb BK388 hg; have NB438_388 := bn BK388 hg; have NB389_438 := nb BK389 hg; have NB438_389 := bn BK389 hg; have NB424_438 := nb BK424 hg; have NB438_424 := bn BK424 hg; have NB425_438 := nb BK425 hg; have NB438_425 := bn BK425 hg; replace HO_389002 := ve HO_389002 hg hb; replace HO_389003 := ve HO_389003 hg hb; replace HO416 := ve HO416 hg hb; replace HO419 := ve HO419 hg hb; replace HO430 := ve HO430 hg hb; replace HO433 := ve HO433 hg hb; replace BK369 := Aside0.mk (blk_below (bo BK369) hb); replace BK370 := Aside0.mk (blk_below (bo BK370) hb); replace BK371 := Aside0.mk (blk_below (bo BK371) hb); replace BK388 := Aside0.mk (blk_below (bo BK388) hb); replace BK389 := Aside0.mk (blk_below (bo BK389) hb); replace BK424 := Aside0.mk (blk_below (bo BK424) hb); replace BK425 := Aside0.mk (blk_below (bo BK425) hb); replace HB := Aside0.mk (below_step (bl HB) hb); clear hb hbox hg) | ((with_reducible refine gate_dst (N := 16) rfl ?_); (try (refine gate_guard (by rfl) ?_; dsimp only)); refine box_event ?hg (N := 16) ?hd (cs := #[.bool false, .int .i64 0, .int .i64 0, .int .i64 0]) (t := 32) ?hr ?_; (case hd => rfl); (case hg => rfl); (case hr => first | (go_simp; done) | (go_simp; rfl)); intro gb439 hg w234 hbox hb; have BK439 := Aside0.mk (hbox); have GW439 := Aside0.mk ((by rw [hg]; exact (below_size (bl HB)) : w.heap.size ≤ gb439)); have GE439 := Aside0.mk ((by rw [hg]; exact (below_size (bl HB)) : w.heap.size ≤ gb439)); have NB369_439 := nb BK369 hg; have NB439_369 := bn BK369 hg; have NB370_439 := nb BK370 hg; have NB439_370 := bn BK370 hg; have NB371_439 := nb BK371 hg; have NB439_371 := bn BK371 hg; have NB388_439 := nb BK388 hg; have NB439_388 := bn BK388 hg; have NB389_439 := nb BK389 hg; have NB439_389 := bn BK389 hg; have NB424_439 := nb BK424 hg; have NB439_424 := bn BK424 hg; have NB425_439 := nb BK425 hg; have NB439_425 := bn BK425 hg; have NB438_439 := nb BK438 hg; have NB439_438 := bn BK438 hg; replace HO_389002 := ve HO_389002 hg hb; replace HO_389003 := ve HO_389003 hg hb; replace HO416 := ve HO416 hg hb; replace HO419 := ve HO419 hg hb; replace HO430 := ve HO430 hg hb; replace HO433 := ve HO433 hg hb; replace BK369 := Aside0.mk (blk_below (bo BK369) hb); replace BK370 := Aside0.mk (blk_below (bo BK370) hb); replace BK371 := Aside0.mk (blk_below (bo BK371) hb); replace BK388 := Aside0.mk (blk_below (bo BK388) hb); replace BK389 := Aside0.mk (blk_below (bo BK389) hb); replace BK424 := Aside0.mk (blk_below (bo BK424) hb); replace BK425 := Aside0.mk (blk_below (bo BK425) hb); replace BK438 := Aside0.mk (blk_below (bo BK438) hb); replace HB := Aside0.mk (below_step (bl HB) hb); clear hb hbox hg; have hnb235 := NB438_369.out; have hnc235 := NB369_438.out; have hnb236 := NB438_370.out; have hnc236 := NB370_438.out; have hnb237 := NB438_371.out; have hnc237 := NB371_438.out; have hnb238 := NB438_388.out; have hnc238 := NB388_438.out; have hnb239 := NB438_389.out; have hnc239 := NB389_438.out; have hnb240 := NB438_424.out; have hnc240 := NB424_438.out; have hnb241 := NB438_425.out; have hnc241 := NB425_438.out; have hnb242 := NB438_439.out; have hnc242 := NB439_438.out; obtain ⟨hcz243_0, hcz243_1, hcz243_2, hcz243_3⟩ := ce4 BK438; obtain ⟨hfz243_0, hfz243_1, hfz243_2, hfz243_3⟩ := fr4 BK438; obtain ⟨Ao244, co244, eo244⟩ := Kd.V_slice HO430.out; subst eo244; obtain ⟨Ao245, co245, eo245⟩ := Kd.V_slice HO433.out; subst eo245) | ((with_reducible refine gate_store (t := 27) (p := 15) rfl ?_); refine store_event (t := 27) (p := 15) (v := ?vo_w246) (w1 := ((((w234.setCell ⟨gb438, 0, none⟩ (.int .i64 t426)).setCell ⟨gb438, 1, none⟩ (.int .i64 t427)).setCell ⟨gb438, 2, none⟩ (.slice Ao244 t428.length co244)).setCell ⟨gb438, 3, none⟩ (.slice Ao245 t431.length co245))) ?hg ?ho ?hn ?hr ?_; (case ho => rfl); (case hg => rfl); (case hn => rfl); (case hr => first | (go_simp; done) | (go_simp; rfl)); intro w246 hw; replace HO_389002 : Aside0 (Kd.V (Kd.int .i64) 3 w246 w.heap.size (fun k_ => k_ ≠ gb369 ∧ k_ ≠ gb370 ∧ k_ ≠ gb371 ∧ k_ ≠ gb388 ∧ k_ ≠ gb389 ∧ k_ ≠ gb424 ∧ k_ ≠ gb425 ∧ k_ ≠ gb438 ∧ k_ ≠ gb439) (.slice Ao81 t378.length co81) t378) := ⟨(by rw [hw]; exact (by (with_reducible repeat (first | apply Kd.V_alloc | apply Kd.V_drewN | apply Kd.V_drew)); exact Kd.V_mono (Kd.V_far (p := ⟨gb438, 3, none⟩) (Kd.V_far (p := ⟨gb438, 2, none⟩) (Kd.V_far (p := ⟨gb438, 1, none⟩) (Kd.V_far (p := ⟨gb438, 0, none⟩) (Kd.V_mono HO_389002.out (fun k_ hk => (⟨hk, hk.1.2⟩ : _ ∧ k_ ≠ gb438))) (fun _ hk => hk.2) (.int .i64 t426)) (fun _ hk => hk.2) (.int .i64 t427)) (fun _ hk => hk.2) (.slice Ao244 t428.length co244)) (fun _ hk => hk.2) (.slice Ao245 t431.length co245)) (fun _ hk => ⟨hk.1.1.1.1, ⟨hk.1.1.1.2.1, ⟨hk.1.1.1.2.2.1, ⟨hk.1.1.1.2.2.2.1, ⟨hk.1.1.1.2.2.2.2.1, ⟨hk.1.1.1.2.2.2.2.2.1, ⟨hk.1.1.1.2.2.2.2.2.2, ⟨hk.1.1.2, hk.1.2⟩⟩⟩⟩⟩⟩⟩⟩)))⟩; replace HO_389003 : Aside0 (Kd.V k50 50 w246 w.heap.size (fun k_ => k_ ≠ gb369 ∧ k_ ≠ gb370 ∧ k_ ≠ gb371 ∧ k_ ≠ gb388 ∧ k_ ≠ gb389 ∧ k_ ≠ gb424 ∧ k_ ≠ gb425 ∧ k_ ≠ gb438 ∧ k_ ≠ gb439) (.slice Ao82 t381.length co82) t381) := ⟨(by rw [hw]; exact (by (with_reducible repeat (first | apply Kd.V_alloc | apply Kd.V_drewN | apply Kd.V_drew)); exact Kd.V_mono (Kd.V_far (p := ⟨gb438, 3, none⟩) (Kd.V_far (p := ⟨gb438, 2, none⟩) (Kd.V_far (p := ⟨gb438, 1, none⟩) (Kd.V_far (p := ⟨gb438, 0, none⟩) (Kd.V_mono HO_389003.out (fun k_ hk => (⟨hk, hk.1.2⟩ : _ ∧ k_ ≠ gb438))) (fun _ hk => hk.2) (.int .i64 t426)) (fun _ hk => hk.2) (.int .i64 t427)) (fun _ hk => hk.2) (.slice Ao244 t428.length co244)) (fun _ hk => hk.2) (.slice Ao245 t431.length co245)) (fun _ hk => ⟨hk.1.1.1.1, ⟨hk.1.1.1.2.1, ⟨hk.1.1.1.2.2.1, ⟨hk.1.1.1.2.2.2.1, ⟨hk.1.1.1.2.2.2.2.1, ⟨hk.1.1.1.2.2.2.2.2.1, ⟨hk.1.1.1.2.2.2.2.2.2, ⟨hk.1.1.2, hk.1.2⟩⟩⟩⟩⟩⟩⟩⟩)))⟩; replace HO416 : Aside0 (Kd.V (Kd.int .i64) 3 w246 w.heap.size (fun k_ => k_ ≠ gb369 ∧ k_ ≠ gb370 ∧ k_ ≠ gb371 ∧ k_ ≠ gb388 ∧ k_ ≠ gb389 ∧ k_ ≠ gb424 ∧ k_ ≠ gb425 ∧ k_ ≠ gb438 ∧ k_ ≠ gb439) (.slice Ao219 t414.length co219) t414) := ⟨(by rw [hw]; exact (by (with_reducible repeat (first | apply Kd.V_alloc | apply Kd.V_drewN | apply Kd.V_drew)); exact Kd.V_mono (Kd.V_far (p := ⟨gb438, 3, none⟩) (Kd.V_far (p := ⟨gb438, 2, none⟩) (Kd.V_far (p := ⟨gb438, 1, none⟩) (Kd.V_far (p := ⟨gb438, 0, none⟩) (Kd.V_mono HO416.out (fun k_ hk => (⟨hk, hk.1.2⟩ : _ ∧ k_ ≠ gb438))) (fun _ hk => hk.2) (.int .i64 t426)) (fun _ hk => hk.2) (.int .i64 t427)) (fun _ hk => hk.2) (.slice Ao244 t428.length co244)) (fun _ hk => hk.2) (.slice Ao245 t431.length co245)) (fun _ hk => ⟨hk.1.1.1.1, ⟨hk.1.1.1.2.1, ⟨hk.1.1.1.2.2.1, ⟨hk.1.1.1.2.2.2.1, ⟨hk.1.1.1.2.2.2.2.1, ⟨hk.1.1.1.2.2.2.2.2.1, ⟨hk.1.1.1.2.2.2.2.2.2, ⟨hk.1.1.2, hk.1.2⟩⟩⟩⟩⟩⟩⟩⟩)))⟩; replace HO419 : Aside0 (Kd.V k50 50 w246 w.heap.size (fun k_ => k_ ≠ gb369 ∧ k_ ≠ gb370 ∧ k_ ≠ gb371 ∧ k_ ≠ gb388 ∧ k_ ≠ gb389 ∧ k_ ≠ gb424 ∧ k_ ≠ gb425 ∧ k_ ≠ gb438 ∧ k_ ≠ gb439) (.slice Ao220 t417.length co220) t417) := ⟨(by rw [hw]; exact (by (with_reducible repeat (first | apply Kd.V_alloc | apply Kd.V_drewN | apply Kd.V_drew)); exact Kd.V_mono (Kd.V_far (p := ⟨gb438, 3, none⟩) (Kd.V_far (p := ⟨gb438, 2, none⟩) (Kd.V_far (p := ⟨gb438, 1, none⟩) (Kd.V_far (p := ⟨gb438, 0, none⟩) (Kd.V_mono HO419.out (fun k_ hk => (⟨hk, hk.1.2⟩ : _ ∧ k_ ≠ gb438))) (fun _ hk => hk.2) (.int .i64 t426)) (fun _ hk => hk.2) (.int .i64 t427)) (fun _ hk => hk.2) (.slice Ao244 t428.length co244)) (fun _ hk => hk.2) (.slice Ao245 t431.length co245)) (fun _ hk => ⟨hk.1.1.1.1, ⟨hk.1.1.1.2.1, ⟨hk.1.1.1.2.2.1, ⟨hk.1.1.1.2.2.2.1, ⟨hk.1.1.1.2.2.2.2.1, ⟨hk.1.1.1.2.2.2.2.2.1, ⟨hk.1.1.1.2.2.2.2.2.2, ⟨hk.1.1.2, hk.1.2⟩⟩⟩⟩⟩⟩⟩⟩)))⟩; replace HO430 : Aside0 (Kd.V (Kd.int .i64) 3 w246 w.heap.size (fun k_ => k_ ≠ gb369 ∧ k_ ≠ gb370 ∧ k_ ≠ gb371 ∧ k_ ≠ gb388 ∧ k_ ≠ gb389 ∧ k_ ≠ gb424 ∧ k_ ≠ gb425 ∧ k_ ≠ gb438 ∧ k_ ≠ gb439) (.slice Ao244 t428.length co244) t428) := ⟨(by rw [hw]; exact (by (with_reducible repeat (first | apply Kd.V_alloc | apply Kd.V_drewN | apply Kd.V_drew)); exact Kd.V_mono (Kd.V_far (p := ⟨gb438, 3, none⟩) (Kd.V_far (p := ⟨gb438, 2, none⟩) (Kd.V_far (p := ⟨gb438, 1, none⟩) (Kd.V_far (p := ⟨gb438, 0, none⟩) (Kd.V_mono HO430.out (fun k_ hk => (⟨hk, hk.1.2⟩ : _ ∧ k_ ≠ gb438))) (fun _ hk => hk.2) (.int .i64 t426)) (fun _ hk => hk.2) (.int .i64 t427)) (fun _ hk => hk.2) (.slice Ao244 t428.length co244)) (fun _ hk => hk.2) (.slice Ao245 t431.length co245)) (fun _ hk => ⟨hk.1.1.1.1, ⟨hk.1.1.1.2.1, ⟨hk.1.1.1.2.2.1, ⟨hk.1.1.1.2.2.2.1, ⟨hk.1.1.1.2.2.2.2.1, ⟨hk.1.1.1.2.2.2.2.2.1, ⟨hk.1.1.1.2.2.2.2.2.2, ⟨hk.1.1.2, hk.1.2⟩⟩⟩⟩⟩⟩⟩⟩)))⟩; replace HO433 : Aside0 (Kd.V k50 50 w246 w.heap.size (fun k_ => k_ ≠ gb369 ∧ k_ ≠ gb370 ∧ k_ ≠ gb371 ∧ k_ ≠ gb388 ∧ k_ ≠ gb389 ∧ k_ ≠ gb424 ∧ k_ ≠ gb425 ∧ k_ ≠ gb438 ∧ k_ ≠ gb439) (.slice Ao245 t431.length co245) t431) := ⟨(by rw [hw]; exact (by (with_reducible repeat (first | apply Kd.V_alloc | apply Kd.V_drewN | apply Kd.V_drew)); exact Kd.V_mono (Kd.V_far (p := ⟨gb438, 3, none⟩) (Kd.V_far (p := ⟨gb438, 2, none⟩) (Kd.V_far (p := ⟨gb438, 1, none⟩) (Kd.V_far (p := ⟨gb438, 0, none⟩) (Kd.V_mono HO433.out (fun k_ hk => (⟨hk, hk.1.2⟩ : _ ∧ k_ ≠ gb438))) (fun _ hk => hk.2) (.int .i64 t426)) (fun _ hk => hk.2) (.int .i64 t427)) (fun _ hk => hk.2) (.slice Ao244 t428.length co244)) (fun _ hk => hk.2) (.slice Ao245 t431.length co245)) (fun _ hk => ⟨hk.1.1.1.1, ⟨hk.1.1.1.2.1, ⟨hk.1.1.1.2.2.1, ⟨hk.1.1.1.2.2.2.1, ⟨hk.1.1.1.2.2.2.2.1, ⟨hk.1.1.1.2.2.2.2.2.1, ⟨hk.1.1.1.2.2.2.2.2.2, ⟨hk.1.1.2, hk.1.2⟩⟩⟩⟩⟩⟩⟩⟩)))⟩; replace BK369 : Aside0 (w246.heap[gb369]? = some (.cells #[.int .i64 a0_0, .int .i64 a0_1, .int .i64 a0_2, .int .i64 a0_3] 23 (0, 0))) := ⟨(by rw [hw]; exact (by (with_reducible repeat (first | refine blk_drewN ?_ _ | refine blk_drew ?_ | refine blk_alloc ?_ _)); refine blk_far ?_ NB369_438.out _; (with_reducible repeat (first | refine blk_drewN ?_ _ | refine blk_drew ?_ | refine blk_alloc ?_ _)); refine blk_far ?_ NB369_438.out _; (with_reducible repeat (first | refine blk_drewN ?_ _ | refine blk_drew ?_ | refine blk_alloc ?_ _)); refine blk_far ?_ NB369_438.out _; (with_reducible repeat (first | refine blk_drewN ?_ _ | refine blk_drew ?_ | refine blk_alloc ?_ _)); refine blk_far ?_ NB369_438.out _; (with_reducible repeat (first | refine blk_drewN ?_ _ | refine blk_drew ?_ | refine blk_alloc ?_ _)); exact BK369.out))⟩; replace BK370 : Aside0 (w246.heap[gb370]? = some (.cells #[.int .i64 a1_0, .int .i64 a1_1, .slice A1_2 l1_2.length c1_2, .slice A1_3 l1_3.length c1_3] 27 (0, 0))) := ⟨(by rw [hw]; exact (by (with_reducible repeat (first | refine blk_drewN ?_ _ | refine blk_drew ?_ | refine blk_alloc ?_ _)); refine blk_far ?_ NB370_438.out _; (with_reducible repeat (first | refine blk_drewN ?_ _ | refine blk_drew ?_ | refine blk_alloc ?_ _)); refine blk_far ?_ NB370_438.out _; (with_reducible repeat (first | refine blk_drewN ?_ _ | refine blk_drew ?_ | refine blk_alloc ?_ _)); refine blk_far ?_ NB370_438.out _; (with_reducible repeat (first | refine blk_drewN ?_ _ | refine blk_drew ?_ | refine blk_alloc ?_ _)); refine blk_far ?_ NB370_438.out _; (with_reducible repeat (first | refine blk_drewN ?_ _ | refine blk_drew ?_ | refine blk_alloc ?_ _)); exact BK370.out))⟩; replace BK371 : Aside0 (w246.heap[gb371]? = some (.cells #[.int .i64 a2_0, .int .i64 a2_1] 28 (0, 0))) := ⟨(by rw [hw]; exact (by (with_reducible repeat (first | refine blk_drewN ?_ _ | refine blk_drew ?_ | refine blk_alloc ?_ _)); refine blk_far ?_ NB371_438.out _; (with_reducible repeat (first | refine blk_drewN ?_ _ | refine blk_drew ?_ | refine blk_alloc ?_ _)); refine blk_far ?_ NB371_438.out _; (with_reducible repeat (first | refine blk_drewN ?_ _ | refine blk_drew ?_ | refine blk_alloc ?_ _)); refine blk_far ?_ NB371_438.out _; (with_reducible repeat (first | refine blk_drewN ?_ _ | refine blk_drew ?_ | refine blk_alloc ?_ _)); refine blk_far ?_ NB371_438.out _; (with_reducible repeat (first | refine blk_drewN ?_ _ | refine blk_drew ?_ | refine blk_alloc ?_ _)); exact BK371.out))⟩; replace BK388 : Aside0 (w246.heap[gb388]? = some (.cells #[.int .i64 t376, .int .i64 t377, .slice Ao81 t378.length co81, .slice Ao82 t381.length co82] 27 (0, 0))) := ⟨(by rw [hw]; exact (by (with_reducible repeat (first | refine blk_drewN ?_ _ | refine blk_drew ?_ | refine blk_alloc ?_ _)); refine blk_far ?_ NB388_438.out _; (with_reducible repeat (first | refine blk_drewN ?_ _ | refine blk_drew ?_ | refine blk_alloc ?_ _)); refine blk_far ?_ NB388_438.out _; (with_reducible repeat (first | refine blk_drewN ?_ _ | refine blk_drew ?_ | refine blk_alloc ?_ _)); refine blk_far ?_ NB388_438.out _; (with_reducible repeat (first | refine blk_drewN ?_ _ | refine blk_drew ?_ | refine blk_alloc ?_ _)); refine blk_far ?_ NB388_438.out _; (with_reducible repeat (first | refine blk_drewN ?_ _ | refine blk_drew ?_ | refine blk_alloc ?_ _)); exact BK388.out))⟩; replace BK389 : Aside0 (w246.heap[gb389]? = some (.cells #[.bool false, .int .i64 t385, .int .i64 t386, .int .i64 t387] 32 (0, 0))) := ⟨(by rw [hw]; exact (by (with_reducible repeat (first | refine blk_drewN ?_ _ | refine blk_drew ?_ | refine blk_alloc ?_ _)); refine blk_far ?_ NB389_438.out _; (with_reducible repeat (first | refine blk_drewN ?_ _ | refine blk_drew ?_ | refine blk_alloc ?_ _)); refine blk_far ?_ NB389_438.out _; (with_reducible repeat (first | refine blk_drewN ?_ _ | refine blk_drew ?_ | refine blk_alloc ?_ _)); refine blk_far ?_ NB389_438.out _; (with_reducible repeat (first | refine blk_drewN ?_ _ | refine blk_drew ?_ | refine blk_alloc ?_ _)); refine blk_far ?_ NB389_438.out _; (with_reducible repeat (first | refine blk_drewN ?_ _ | refine blk_drew ?_ | refine blk_alloc ?_ _)); exact BK389.out))⟩; replace BK424 : Aside0 (w246.heap[gb424]? = some (.cells #[.int .i64 t412, .int .i64 t413, .slice Ao219 t414.length co219, .slice Ao220 t417.length co220] 27 (0, 0))) := ⟨(by rw [hw]; exact (by (with_reducible repeat (first | refine blk_drewN ?_ _ | refine blk_drew ?_ | refine blk_alloc ?_ _)); refine blk_far ?_ NB424_438.out _; (with_reducible repeat (first | refine blk_drewN ?_ _ | refine blk_drew ?_ | refine blk_alloc ?_ _)); refine blk_far ?_ NB424_438.out _; (with_reducible repeat (first | refine blk_drewN ?_ _ | refine blk_drew ?_ | refine blk_alloc ?_ _)); refine blk_far ?_ NB424_438.out _; (with_reducible repeat (first | refine blk_drewN ?_ _ | refine blk_drew ?_ | refine blk_alloc ?_ _)); refine blk_far ?_ NB424_438.out _; (with_reducible repeat (first | refine blk_drewN ?_ _ | refine blk_drew ?_ | refine blk_alloc ?_ _)); exact BK424.out))⟩; replace BK425 : Aside0 (w246.heap[gb425]? = some (.cells #[.bool true, .int .i64 t421, .int .i64 t422, .int .i64 t423] 32 (0, 0))) := ⟨(by rw [hw]; exact (by (with_reducible repeat (first | refine blk_drewN ?_ _ | refine blk_drew ?_ | refine blk_alloc ?_ _)); refine blk_far ?_ NB425_438.out _; (with_reducible repeat (first | refine blk_drewN ?_ _ | refine blk_drew ?_ | refine blk_alloc ?_ _)); refine blk_far ?_ NB425_438.out _; (with_reducible repeat (first | refine blk_drewN ?_ _ | refine blk_drew ?_ | refine blk_alloc ?_ _)); refine blk_far ?_ NB425_438.out _; (with_reducible repeat (first | refine blk_drewN ?_ _ | refine blk_drew ?_ | refine blk_alloc ?_ _)); refine blk_far ?_ NB425_438.out _; (with_reducible repeat (first | refine blk_drewN ?_ _ | refine blk_drew ?_ | refine blk_alloc ?_ _)); exact BK425.out))⟩; replace BK438 : Aside0 (w246.heap[gb438]? = some (.cells #[.int .i64 t426, .int .i64 t427, .slice Ao244 t428.length co244, .slice Ao245 t431.length co245] 27 (0, 0))) := ⟨(by rw [hw]; exact (by (with_reducible repeat (first | refine blk_drewN ?_ _ | refine blk_drew ?_ | refine blk_alloc ?_ _)); refine blk_put (cs := #[.int .i64 t426, .int .i64 t427, .slice Ao244 t428.length co244, .slice none 0 0]) ?_ 3 _ rfl; (with_reducible repeat (first | refine blk_drewN ?_ _ | refine blk_drew ?_ | refine blk_alloc ?_ _)); refine blk_put (cs := #[.int .i64 t426, .int .i64 t427, .slice none 0 0, .slice none 0 0]) ?_ 2 _ rfl; (with_reducible repeat (first | refine blk_drewN ?_ _ | refine blk_drew ?_ | refine blk_alloc ?_ _)); refine blk_put (cs := #[.int .i64 t426, .int .i64 0, .slice none 0 0, .slice none 0 0]) ?_ 1 _ rfl; (with_reducible repeat (first | refine blk_drewN ?_ _ | refine blk_drew ?_ | refine blk_alloc ?_ _)); refine blk_put (cs := #[.int .i64 0, .int .i64 0, .slice none 0 0, .slice none 0 0]) ?_ 0 _ rfl; (with_reducible repeat (first | refine blk_drewN ?_ _ | refine blk_drew ?_ | refine blk_alloc ?_ _)); exact BK438.out))⟩; replace BK439 : Aside0 (w246.heap[gb439]? = some (.cells #[.bool false, .int .i64 0, .int .i64 0, .int .i64 0] 32 (0, 0))) := ⟨(by rw [hw]; exact (by (with_reducible repeat (first | refine blk_drewN ?_ _ | refine blk_drew ?_ | refine blk_alloc ?_ _)); refine blk_far ?_ NB439_438.out _; (with_reducible repeat (first | refine blk_drewN ?_ _ | refine blk_drew ?_ | refine blk_alloc ?_ _)); refine blk_far ?_ NB439_438.out _; (with_reducible repeat (first | refine blk_drewN ?_ _ | refine blk_drew ?_ | refine blk_alloc ?_ _)); refine blk_far ?_ NB439_438.out _; (with_reducible repeat (first | refine blk_drewN ?_ _ | refine blk_drew ?_ | refine blk_alloc ?_ _)); refine blk_far ?_ NB439_438.out _; (with_reducible repeat (first | refine blk_drewN ?_ _ | refine blk_drew ?_ | refine blk_alloc ?_ _)); exact BK439.out))⟩; replace HB : Aside0 (Below w.heap.size w w246) := ⟨(by rw [hw]; exact (bl HB))⟩; clear hw; have hnb247 := NB439_369.out; have hnc247 := NB369_439.out; have hnb248 := NB439_370.out; have hnc248 := NB370_439.out; have hnb249 := NB439_371.out; have hnc249 := NB371_439.out; have hnb250 := NB439_388.out; have hnc250 := NB388_439.out; have hnb251 := NB439_389.out; have hnc251 := NB389_439.out; have hnb252 := NB439_424.out; have hnc252 := NB424_439.out; have hnb253 := NB439_425.out; have hnc253 := NB425_439.out; obtain ⟨hcz254_0, hcz254_1, hcz254_2, hcz254_3⟩ := ce4 BK439; obtain ⟨hfz254_0, hfz254_1, hfz254_2, hfz254_3⟩ := fr4 BK439) | ((with_reducible refine gate_store (t := 32) (p := 16) rfl ?_); refine store_event (t := 32) (p := 16) (v := ?vo_w255) (w1 := ((((w246.setCell ⟨gb439, 0, none⟩ (.bool false)).setCell ⟨gb439, 1, none⟩ (.int .i64 t435)).setCell ⟨gb439, 2, none⟩ (.int .i64 t436)).setCell ⟨gb439, 3, none⟩ (.int .i64 t437))) ?hg ?ho ?hn ?hr ?_; (case ho => rfl); (case hg => rfl); (case hn => rfl); (case hr => first | (go_simp; done) | (go_simp; rfl)); intro w255 hw; replace HO_389002 : Aside0 (Kd.V (Kd.int .i64) 3 w255 w.heap.size (fun k_ => k_ ≠ gb369 ∧ k_ ≠ gb370 ∧ k_ ≠ gb371 ∧ k_ ≠ gb388 ∧ k_ ≠ gb389 ∧ k_ ≠ gb424 ∧ k_ ≠ gb425 ∧ k_ ≠ gb438 ∧ k_ ≠ gb439) (.slice Ao81 t378.length co81) t378) := ⟨(by rw [hw]; exact (by (with_reducible repeat (first | apply Kd.V_alloc | apply Kd.V_drewN | apply Kd.V_drew)); exact Kd.V_mono (Kd.V_far (p := ⟨gb439, 3, none⟩) (Kd.V_far (p := ⟨gb439, 2, none⟩) (Kd.V_far (p := ⟨gb439, 1, none⟩) (Kd.V_far (p := ⟨gb439, 0, none⟩) (Kd.V_mono HO_389002.out (fun k_ hk => (⟨hk, hk.2.2.2.2.2.2.2.2⟩ : _ ∧ k_ ≠ gb439))) (fun _ hk => hk.2) (.bool false)) (fun _ hk => hk.2) (.int .i64 t435)) (fun _ hk => hk.2) (.int .i64 t436)) (fun _ hk => hk.2) (.int .i64 t437)) (fun _ hk => ⟨hk.1.1, ⟨hk.1.2.1, ⟨hk.1.2.2.1, ⟨hk.1.2.2.2.1, ⟨hk.1.2.2.2.2.1, ⟨hk.1.2.2.2.2.2.1, ⟨hk.1.2.2.2.2.2.2.1, ⟨hk.1.2.2.2.2.2.2.2.1, hk.1.2.2.2.2.2.2.2.2⟩⟩⟩⟩⟩⟩⟩⟩)))⟩; replace HO_389003 : Aside0 (Kd.V k50 50 w255 w.heap.size (fun k_ => k_ ≠ gb369 ∧ k_ ≠ gb370 ∧ k_ ≠ gb371 ∧ k_ ≠ gb388 ∧ k_ ≠ gb389 ∧ k_ ≠ gb424 ∧ k_ ≠ gb425 ∧ k_ ≠ gb438 ∧ k_ ≠ gb439) (.slice Ao82 t381.length co82) t381) := ⟨(by rw [hw]; exact (by (with_reducible repeat (first | apply Kd.V_alloc | apply Kd.V_drewN | apply Kd.V_drew)); exact Kd.V_mono (Kd.V_far (p := ⟨gb439, 3, none⟩) (Kd.V_far (p := ⟨gb439, 2, none⟩) (Kd.V_far (p := ⟨gb439, 1, none⟩) (Kd.V_far (p := ⟨gb439, 0, none⟩) (Kd.V_mono HO_389003.out (fun k_ hk => (⟨hk, hk.2.2.2.2.2.2.2.2⟩ : _ ∧ k_ ≠ gb439))) (fun _ hk => hk.2) (.bool false)) (fun _ hk => hk.2) (.int .i64 t435)) (fun _ hk => hk.2) (.int .i64 t436)) (fun _ hk => hk.2) (.int .i64 t437)) (fun _ hk => ⟨hk.1.1, ⟨hk.1.2.1, ⟨hk.1.2.2.1, ⟨hk.1.2.2.2.1, ⟨hk.1.2.2.2.2.1, ⟨hk.1.2.2.2.2.2.1, ⟨hk.1.2.2.2.2.2.2.1, ⟨hk.1.2.2.2.2.2.2.2.1, hk.1.2.2.2.2.2.2.2.2⟩⟩⟩⟩⟩⟩⟩⟩)))⟩; replace HO416 : Aside0 (Kd.V (Kd.int .i64) 3 w255 w.heap.size (fun k_ => k_ ≠ gb369 ∧ k_ ≠ gb370 ∧ k_ ≠ gb371 ∧ k_ ≠ gb388 ∧ k_ ≠ gb389 ∧ k_ ≠ gb424 ∧ k_ ≠ gb425 ∧ k_ ≠ gb438 ∧ k_ ≠ gb439) (.slice Ao219 t414.length co219) t414) := ⟨(by rw [hw]; exact (by (with_reducible repeat (first | apply Kd.V_alloc | apply Kd.V_drewN | apply Kd.V_drew)); exact Kd.V_mono (Kd.V_far (p := ⟨gb439, 3, none⟩) (Kd.V_far (p := ⟨gb439, 2, none⟩) (Kd.V_far (p := ⟨gb439, 1, none⟩) (Kd.V_far (p := ⟨gb439, 0, none⟩) (Kd.V_mono HO416.out (fun k_ hk => (⟨hk, hk.2.2.2.2.2.2.2.2⟩ : _ ∧ k_ ≠ gb439))) (fun _ hk => hk.2) (.bool false)) (fun _ hk => hk.2) (.int .i64 t435)) (fun _ hk => hk.2) (.int .i64 t436)) (fun _ hk => hk.2) (.int .i64 t437)) (fun _ hk => ⟨hk.1.1, ⟨hk.1.2.1, ⟨hk.1.2.2.1, ⟨hk.1.2.2.2.1, ⟨hk.1.2.2.2.2.1, ⟨hk.1.2.2.2.2.2.1, ⟨hk.1.2.2.2.2.2.2.1, ⟨hk.1.2.2.2.2.2.2.2.1, hk.1.2.2.2.2.2.2.2.2⟩⟩⟩⟩⟩⟩⟩⟩)))⟩; replace HO419 : Aside0 (Kd.V k50 50 w255 w.heap.size (fun k_ => k_ ≠ gb369 ∧ k_ ≠ gb370 ∧ k_ ≠ gb371 ∧ k_ ≠ gb388 ∧ k_ ≠ gb389 ∧ k_ ≠ gb424 ∧ k_ ≠ gb425 ∧ k_ ≠ gb438 ∧ k_ ≠ gb439) (.slice Ao220 t417.length co220) t417) := ⟨(by rw [hw]; exact (by (with_reducible repeat (first | apply Kd.V_alloc | apply Kd.V_drewN | apply Kd.V_drew)); exact Kd.V_mono (Kd.V_far (p := ⟨gb439, 3, none⟩) (Kd.V_far (p := ⟨gb439, 2, none⟩) (Kd.V_far (p := ⟨gb439, 1, none⟩) (Kd.V_far (p := ⟨gb439, 0, none⟩) (Kd.V_mono HO419.out (fun k_ hk => (⟨hk, hk.2.2.2.2.2.2.2.2⟩ : _ ∧ k_ ≠ gb439))) (fun _ hk => hk.2) (.bool false)) (fun _ hk => hk.2) (.int .i64 t435)) (fun _ hk => hk.2) (.int .i64 t436)) (fun _ hk => hk.2) (.int .i64 t437)) (fun _ hk => ⟨hk.1.1, ⟨hk.1.2.1, ⟨hk.1.2.2.1, ⟨hk.1.2.2.2.1, ⟨hk.1.2.2.2.2.1, ⟨hk.1.2.2.2.2.2.1, ⟨hk.1.2.2.2.2.2.2.1, ⟨hk.1.2.2.2.2.2.2.2.1, hk.1.2.2.2.2.2.2.2.2⟩⟩⟩⟩⟩⟩⟩⟩)))⟩; replace HO430 : Aside0 (Kd.V (Kd.int .i64) 3 w255 w.heap.size (fun k_ => k_ ≠ gb369 ∧ k_ ≠ gb370 ∧ k_ ≠ gb371 ∧ k_ ≠ gb388 ∧ k_ ≠ gb389 ∧ k_ ≠ gb424 ∧ k_ ≠ gb425 ∧ k_ ≠ gb438 ∧ k_ ≠ gb439) (.slice Ao244 t428.length co244) t428) := ⟨(by rw [hw]; exact (by (with_reducible repeat (first | apply Kd.V_alloc | apply Kd.V_drewN | apply Kd.V_drew)); exact Kd.V_mono (Kd.V_far (p := ⟨gb439, 3, none⟩) (Kd.V_far (p := ⟨gb439, 2, none⟩) (Kd.V_far (p := ⟨gb439, 1, none⟩) (Kd.V_far (p := ⟨gb439, 0, none⟩) (Kd.V_mono HO430.out (fun k_ hk => (⟨hk, hk.2.2.2.2.2.2.2.2⟩ : _ ∧ k_ ≠ gb439))) (fun _ hk => hk.2) (.bool false)) (fun _ hk => hk.2) (.int .i64 t435)) (fun _ hk => hk.2) (.int .i64 t436)) (fun _ hk => hk.2) (.int .i64 t437)) (fun _ hk => ⟨hk.1.1, ⟨hk.1.2.1, ⟨hk.1.2.2.1, ⟨hk.1.2.2.2.1, ⟨hk.1.2.2.2.2.1, ⟨hk.1.2.2.2.2.2.1, ⟨hk.1.2.2.2.2.2.2.1, ⟨hk.1.2.2.2.2.2.2.2.1, hk.1.2.2.2.2.2.2.2.2⟩⟩⟩⟩⟩⟩⟩⟩)))⟩; replace HO433 : Aside0 (Kd.V k50 50 w255 w.heap.size (fun k_ => k_ ≠ gb369 ∧ k_ ≠ gb370 ∧ k_ ≠ gb371 ∧ k_ ≠ gb388 ∧ k_ ≠ gb389 ∧ k_ ≠ gb424 ∧ k_ ≠ gb425 ∧ k_ ≠ gb438 ∧ k_ ≠ gb439) (.slice Ao245 t431.length co245) t431) := ⟨(by rw [hw]; exact (by (with_reducible repeat (first | apply Kd.V_alloc | apply Kd.V_drewN | apply Kd.V_drew)); exact Kd.V_mono (Kd.V_far (p := ⟨gb439, 3, none⟩) (Kd.V_far (p := ⟨gb439, 2, none⟩) (Kd.V_far (p := ⟨gb439, 1, none⟩) (Kd.V_far (p := ⟨gb439, 0, none⟩) (Kd.V_mono HO433.out (fun k_ hk => (⟨hk, hk.2.2.2.2.2.2.2.2⟩ : _ ∧ k_ ≠ gb439))) (fun _ hk => hk.2) (.bool false)) (fun _ hk => hk.2) (.int .i64 t435)) (fun _ hk => hk.2) (.int .i64 t436)) (fun _ hk => hk.2) (.int .i64 t437)) (fun _ hk => ⟨hk.1.1, ⟨hk.1.2.1, ⟨hk.1.2.2.1, ⟨hk.1.2.2.2.1, ⟨hk.1.2.2.2.2.1, ⟨hk.1.2.2.2.2.2.1, ⟨hk.1.2.2.2.2.2.2.1, ⟨hk.1.2.2.2.2.2.2.2.1, hk.1.2.2.2.2.2.2.2.2⟩⟩⟩⟩⟩⟩⟩⟩)))⟩; replace BK369 : Aside0 (w255.heap[gb369]? = some (.cells #[.int .i64 a0_0, .int .i64 a0_1, .int .i64 a0_2, .int .i64 a0_3] 23 (0, 0))) := ⟨(by rw [hw]; exact (by (with_reducible repeat (first | refine blk_drewN ?_ _ | refine blk_drew ?_ | refine blk_alloc ?_ _)); refine blk_far ?_ NB369_439.out _; (with_reducible repeat (first | refine blk_drewN ?_ _ | refine blk_drew ?_ | refine blk_alloc ?_ _)); refine blk_far ?_ NB369_439.out _; (with_reducible repeat (first | refine blk_drewN ?_ _ | refine blk_drew ?_ | refine blk_alloc ?_ _)); refine blk_far ?_ NB369_439.out _; (with_reducible repeat (first | refine blk_drewN ?_ _ | refine blk_drew ?_ | refine blk_alloc ?_ _)); refine blk_far ?_ NB369_439.out _; (with_reducible repeat (first | refine blk_drewN ?_ _ | refine blk_drew ?_ | refine blk_alloc ?_ _)); exact BK369.out))⟩; replace BK370 : Aside0 (w255.heap[gb370]? = some (.cells #[.int .i64 a1_0, .int .i64 a1_1, .slice A1_2 l1_2.length c1_2, .slice A1_3 l1_3.length c1_3] 27 (0, 0))) := ⟨(by rw [hw]; exact (by (with_reducible repeat (first | refine blk_drewN ?_ _ | refine blk_drew ?_ | refine blk_alloc ?_ _)); refine blk_far ?_ NB370_439.out _; (with_reducible repeat (first | refine blk_drewN ?_ _ | refine blk_drew ?_ | refine blk_alloc ?_ _)); refine blk_far ?_ NB370_439.out _; (with_reducible repeat (first | refine blk_drewN ?_ _ | refine blk_drew ?_ | refine blk_alloc ?_ _)); refine blk_far ?_ NB370_439.out _; (with_reducible repeat (first | refine blk_drewN ?_ _ | refine blk_drew ?_ | refine blk_alloc ?_ _)); refine blk_far ?_ NB370_439.out _; (with_reducible repeat (first | refine blk_drewN ?_ _ | refine blk_drew ?_ | refine blk_alloc ?_ _)); exact BK370.out))⟩; replace BK371 : Aside0 (w255.heap[gb371]? = some (.cells #[.int .i64 a2_0, .int .i64 a2_1] 28 (0, 0))) := ⟨(by rw [hw]; exact (by (with_reducible repeat (first | refine blk_drewN ?_ _ | refine blk_drew ?_ | refine blk_alloc ?_ _)); refine blk_far ?_ NB371_439.out _; (with_reducible repeat (first | refine blk_drewN ?_ _ | refine blk_drew ?_ | refine blk_alloc ?_ _)); refine blk_far ?_ NB371_439.out _; (with_reducible repeat (first | refine blk_drewN ?_ _ | refine blk_drew ?_ | refine blk_alloc ?_ _)); refine blk_far ?_ NB371_439.out _; (with_reducible repeat (first | refine blk_drewN ?_ _ | refine blk_drew ?_ | refine blk_alloc ?_ _)); refine blk_far ?_ NB371_439.out _; (with_reducible repeat (first | refine blk_drewN ?_ _ | refine blk_drew ?_ | refine blk_alloc ?_ _)); exact BK371.out))⟩; replace BK388 : Aside0 (w255.heap[gb388]? = some (.cells #[.int .i64 t376, .int .i64 t377, .slice Ao81 t378.length co81, .slice Ao82 t381.length co82] 27 (0, 0))) := ⟨(by rw [hw]; exact (by (with_reducible repeat (first | refine blk_drewN ?_ _ | refine blk_drew ?_ | refine blk_alloc ?_ _)); refine blk_far ?_ NB388_439.out _; (with_reducible repeat (first | refine blk_drewN ?_ _ | refine blk_drew ?_ | refine blk_alloc ?_ _)); refine blk_far ?_ NB388_439.out _; (with_reducible repeat (first | refine blk_drewN ?_ _ | refine blk_drew ?_ | refine blk_alloc ?_ _)); refine blk_far ?_ NB388_439.out _; (with_reducible repeat (first | refine blk_drewN ?_ _ | refine blk_drew ?_ | refine blk_alloc ?_ _)); refine blk_far ?_ NB388_439.out _; (with_reducible repeat (first | refine blk_drewN ?_ _ | refine blk_drew ?_ | refine blk_alloc ?_ _)); exact BK388.out))⟩; replace BK389 : Aside0 (w255.heap[gb389]? = some (.cells #[.bool false, .int .i64 t385, .int .i64 t386, .int .i64 t387] 32 (0, 0))) := ⟨(by rw [hw]; exact (by (with_reducible repeat (first | refine blk_drewN ?_ _ | refine blk_drew ?_ | refine blk_alloc ?_ _)); refine blk_far ?_ NB389_439.out _; (with_reducible repeat (first | refine blk_drewN ?_ _ | refine blk_drew ?_ | refine blk_alloc ?_ _)); refine blk_far ?_ NB389_439.out _; (with_reducible repeat (first | refine blk_drewN ?_ _ | refine blk_drew ?_ | refine blk_alloc ?_ _)); refine blk_far ?_ NB389_439.out _; (with_reducible repeat (first | refine blk_drewN ?_ _ | refine blk_drew ?_ | refine blk_alloc ?_ _)); refine blk_far ?_ NB389_439.out _; (with_reducible repeat (first | refine blk_drewN ?_ _ | refine blk_drew ?_ | refine blk_alloc ?_ _)); exact BK389.out))⟩; replace BK424 : Aside0 (w255.heap[gb424]? = some (.cells #[.int .i64 t412, .int .i64 t413, .slice Ao219 t414.length co219, .slice Ao220 t417.length co220] 27 (0, 0))) := ⟨(by rw [hw]; exact (by (with_reducible repeat (first | refine blk_drewN ?_ _ | refine blk_drew ?_ | refine blk_alloc ?_ _)); refine blk_far ?_ NB424_439.out _; (with_reducible repeat (first | refine blk_drewN ?_ _ | refine blk_drew ?_ | refine blk_alloc ?_ _)); refine blk_far ?_ NB424_439.out _; (with_reducible repeat (first | refine blk_drewN ?_ _ | refine blk_drew ?_ | refine blk_alloc ?_ _)); refine blk_far ?_ NB424_439.out _; (with_reducible repeat (first | refine blk_drewN ?_ _ | refine blk_drew ?_ | refine blk_alloc ?_ _)); refine blk_far ?_ NB424_439.out _; (with_reducible repeat (first | refine blk_drewN ?_ _ | refine blk_drew ?_ | refine blk_alloc ?_ _)); exact BK424.out))⟩; replace BK425 : Aside0 (w255.heap[gb425]? = some (.cells #[.bool true, .int .i64 t421, .int .i64 t422, .int .i64 t423] 32 (0, 0))) := ⟨(by rw [hw]; exact (by (with_reducible repeat (first | refine blk_drewN ?_ _ | refine blk_drew ?_ | refine blk_alloc ?_ _)); refine blk_far ?_ NB425_439.out _; (with_reducible repeat (first | refine blk_drewN ?_ _ | refine blk_drew ?_ | refine blk_alloc ?_ _)); refine blk_far ?_ NB425_439.out _; (with_reducible repeat (first | refine blk_drewN ?_ _ | refine blk_drew ?_ | refine blk_alloc ?_ _)); refine blk_far ?_ NB425_439.out _; (with_reducible repeat (first | refine blk_drewN ?_ _ | refine blk_drew ?_ | refine blk_alloc ?_ _)); refine blk_far ?_ NB425_439.out _; (with_reducible repeat (first | refine blk_drewN ?_ _ | refine blk_drew ?_ | refine blk_alloc ?_ _)); exact BK425.out))⟩; replace BK438 : Aside0 (w255.heap[gb438]? = some (.cells #[.int .i64 t426, .int .i64 t427, .slice Ao244 t428.length co244, .slice Ao245 t431.length co245] 27 (0, 0))) := ⟨(by rw [hw]; exact (by (with_reducible repeat (first | refine blk_drewN ?_ _ | refine blk_drew ?_ | refine blk_alloc ?_ _)); refine blk_far ?_ NB438_439.out _; (with_reducible repeat (first | refine blk_drewN ?_ _ | refine blk_drew ?_ | refine blk_alloc ?_ _)); refine blk_far ?_ NB438_439.out _; (with_reducible repeat (first | refine blk_drewN ?_ _ | refine blk_drew ?_ | refine blk_alloc ?_ _)); refine blk_far ?_ NB438_439.out _; (with_reducible repeat (first | refine blk_drewN ?_ _ | refine blk_drew ?_ | refine blk_alloc ?_ _)); refine blk_far ?_ NB438_439.out _; (with_reducible repeat (first | refine blk_drewN ?_ _ | refine blk_drew ?_ | refine blk_alloc ?_ _)); exact BK438.out))⟩; replace BK439 : Aside0 (w255.heap[gb439]? = some (.cells #[.bool false, .int .i64 t435, .int .i64 t436, .int .i64 t437] 32 (0, 0))) := ⟨(by rw [hw]; exact (by (with_reducible repeat (first | refine blk_drewN ?_ _ | refine blk_drew ?_ | refine blk_alloc ?_ _)); refine blk_put (cs := #[.bool false, .int .i64 t435, .int .i64 t436, .int .i64 0]) ?_ 3 _ rfl; (with_reducible repeat (first | refine blk_drewN ?_ _ | refine blk_drew ?_ | refine blk_alloc ?_ _)); refine blk_put (cs := #[.bool false, .int .i64 t435, .int .i64 0, .int .i64 0]) ?_ 2 _ rfl; (with_reducible repeat (first | refine blk_drewN ?_ _ | refine blk_drew ?_ | refine blk_alloc ?_ _)); refine blk_put (cs := #[.bool false, .int .i64 0, .int .i64 0, .int .i64 0]) ?_ 1 _ rfl; (with_reducible repeat (first | refine blk_drewN ?_ _ | refine blk_drew ?_ | refine blk_alloc ?_ _)); refine blk_put (cs := #[.bool false, .int .i64 0, .int .i64 0, .int .i64 0]) ?_ 0 _ rfl; (with_reducible repeat (first | refine blk_drewN ?_ _ | refine blk_drew ?_ | refine blk_alloc ?_ _)); exact BK439.out))⟩; replace HB : Aside0 (Below w.heap.size w w255) := ⟨(by rw [hw]; exact (bl HB))⟩; clear hw; obtain ⟨hcz256_0, hcz256_1, hcz256_2, hcz256_3⟩ := ce4 BK389; obtain ⟨hfz256_0, hfz256_1, hfz256_2, hfz256_3⟩ := fr4 BK389; obtain ⟨hcz257_0, hcz257_1, hcz257_2, hcz257_3⟩ := ce4 BK425; obtain ⟨hfz257_0, hfz257_1, hfz257_2, hfz257_3⟩ := fr4 BK425; obtain ⟨hcz258_0, hcz258_1, hcz258_2, hcz258_3⟩ := ce4 BK439; obtain ⟨hfz258_0, hfz258_1, hfz258_2, hfz258_3⟩ := fr4 BK439) | (go_at_call 9; (with_reducible refine (sandglasslaw13_live.calls kj147  t440 _ A196.out).mono ?_); rintro e w259 ⟨rfl, hb⟩; replace HO_389002 := vb HO_389002 hb; replace HO_389003 := vb HO_389003 hb; replace HO416 := vb HO416 hb; replace HO419 := vb HO419 hb; replace HO430 := vb HO430 hb; replace HO433 := vb HO433 hb; replace BK369 := Aside0.mk (blk_below (bo BK369) hb); replace BK370 := Aside0.mk (blk_below (bo BK370) hb); replace BK371 := Aside0.mk (blk_below (bo BK371) hb); replace BK388 := Aside0.mk (blk_below (bo BK388) hb); replace BK389 := Aside0.mk (blk_below (bo BK389) hb); replace BK424 := Aside0.mk (blk_below (bo BK424) hb); replace BK425 := Aside0.mk (blk_below (bo BK425) hb); replace BK438 := Aside0.mk (blk_below (bo BK438) hb); replace BK439 := Aside0.mk (blk_below (bo BK439) hb); replace HB := Aside0.mk (below_step (bl HB) hb); (try clear hb); (try clear hb2); (try clear hk); (try clear hi)))
                 go_ret
                 exact ⟨by first | (with_reducible rfl) | rfl | (simp [errW_none, errW_some] <;> rfl) | (simp [*, errW_none, errW_some] <;> rfl), bl HB⟩
               ·replace c194 := Bool.eq_false_iff.mpr c194
                subst c194
                rw [if_neg (show ¬ (false = true) by decide)] at H
                exact absurd H (by simp)
              ·rw [if_neg c193] at H
               exact absurd H (by simp)

end Go.Proofs.Ytempbjcmhillgaa.Q
