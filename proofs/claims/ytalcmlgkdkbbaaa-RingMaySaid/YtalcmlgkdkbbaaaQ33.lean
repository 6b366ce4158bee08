import Derived.Test.YtalcmlgkdkbbaaaQ33d
namespace Go.Proofs.Ytalcmlgkdkbbaaa.Q
open Go.RowKit Go.Proofs.Ytalcmlgkdkbbaaa.Zip Go.Proofs.YtalcmlgkdkbbaaaW.PrintWords Go.Proofs.YtalcmlgkdkbbaaaW.PrintLast Go.Proofs.YtalcmlgkdkbbaaaW.PrintMore
attribute [local go_sem] max2_int min2_int max_two min_two max_three min_three max_four min_four   -- for this text's walks alone
set_option linter.unusedVariables false
set_option linter.unusedSimpArgs false

set_option maxHeartbeats 8000000 in
set_option maxRecDepth 100000 in
theorem sandglasslaw12_RingMay.calls (k : Nat) (a0_0 : Int) (a0_1 : Int) (a0_2 : Int) (a0_3 : Int) (a1_0 : Int) (a1_1 : Int) (A1_2 : Option Addr) (c1_2 : Nat) (l1_2 : List Int) (A1_3 : Option Addr) (c1_3 : Nat) (l1_3 : List (S54)) (a2_0 : Int) (a2_1 : Int) (r : Bool) (w : World) (hr1_2 : Kd.C (Kd.int .i64) w A1_2 l1_2.length l1_2) (hc1_2 : l1_2.length ≤ c1_2) (hr1_3 : Kd.C k54 w A1_3 l1_3.length l1_3) (hc1_3 : l1_3.length ≤ c1_3) (h : sandglasslaw12_RingMay.f k a0_0 a0_1 a0_2 a0_3 a1_0 a1_1 l1_2 l1_3 a2_0 a2_1 = some r) :
  Calls Try.prog 4 #[.agg #[.int .i64 a0_0, .int .i64 a0_1, .int .i64 a0_2, .int .i64 a0_3], .agg #[.int .i64 a1_0, .int .i64 a1_1, .slice A1_2 l1_2.length c1_2, .slice A1_3 l1_3.length c1_3], .agg #[.int .i64 a2_0, .int .i64 a2_1]] w fun e w' => e = .returned (.bool r) ∧ Below w.heap.size w w' := by
 have hu23 := Try.underlying23
 have hu27 := Try.underlying27
 have hu28 := Try.underlying28
 have hu32 := Try.underlying32
 have HR1_2 := Aside0.mk hr1_2
 have HC1_2 := Aside0.mk hc1_2
 clear hr1_2 hc1_2
 have HR1_3 := Aside0.mk hr1_3
 have HC1_3 := Aside0.mk hc1_3
 clear hr1_3 hc1_3
 have HB := Aside0.mk (Below.refl w.heap.size w)
 have H : ((sandglassref10_Few.f a1_0 a1_1 l1_2 l1_3).bind fun t377 => (if t377 = true then ((sandglassref12_May.f k a0_0 a0_1 a0_2 a0_3 a1_0 a1_1 l1_2 l1_3).bind fun t378 => (if t378 = true then (if a2_0 < 0 then (sandglasslaw12_RingMay.j0 k a2_0 a2_1 true a0_0 a0_1 a0_2 a0_3 a1_0 a1_1 l1_2 l1_3) else (if a2_0 > 549755813888 then (sandglasslaw12_RingMay.j0 k a2_0 a2_1 true a0_0 a0_1 a0_2 a0_3 a1_0 a1_1 l1_2 l1_3) else (if a1_0 > 549755813888 then (sandglasslaw12_RingMay.j0 k a2_0 a2_1 true a0_0 a0_1 a0_2 a0_3 a1_0 a1_1 l1_2 l1_3) else ((sandglassref09_Weighs.f a2_1).bind fun t379 => (sandglasslaw12_RingMay.j0 k a2_0 a2_1 (!t379) a0_0 a0_1 a0_2 a0_3 a1_0 a1_1 l1_2 l1_3))))) else (sandglasslaw12_RingMay.j0 k a2_0 a2_1 true a0_0 a0_1 a0_2 a0_3 a1_0 a1_1 l1_2 l1_3))) else (sandglasslaw12_RingMay.j0 k a2_0 a2_1 true a0_0 a0_1 a0_2 a0_3 a1_0 a1_1 l1_2 l1_3))) = some r := h
 clear h
 have HC4 := Aside0.mk H
 clear H
 go_enter Try.func4, Try.ntmps4
 try go_wp2_with (first | ((with_reducible refine gate_dst (N := 3) rfl ?_); (try (refine gate_guard (by rfl) ?_; dsimp only)); refine box_event ?hg (N := 3) ?hd (cs := #[.int .i64 a0_0, .int .i64 a0_1, .int .i64 a0_2, .int .i64 a0_3]) (t := 23) ?hr ?_; (case hd => rfl); (case hg => rfl); (case hr => first | (go_simp; done) | (go_simp; rfl)); intro gb374 hg w5 hbox hb; have BK374 := Aside0.mk (hbox); have GW374 := Aside0.mk ((by rw [hg]; exact (below_size (bl HB)) : w.heap.size ≤ gb374)); have GE374 := Aside0.mk ((by rw [hg]; exact (below_size (bl HB)) : w.heap.size ≤ gb374)); replace HB := Aside0.mk (below_step (bl HB) hb); clear hb hbox hg) | ((with_reducible refine gate_dst (N := 4) rfl ?_); (try (refine gate_guard (by rfl) ?_; dsimp only)); refine box_event ?hg (N := 4) ?hd (cs := #[.int .i64 a1_0, .int .i64 a1_1, .slice A1_2 l1_2.length c1_2, .slice A1_3 l1_3.length c1_3]) (t := 27) ?hr ?_; (case hd => rfl); (case hg => rfl); (case hr => first | (go_simp; done) | (go_simp; rfl)); intro gb375 hg w6 hbox hb; have BK375 := Aside0.mk (hbox); have GW375 := Aside0.mk ((by rw [hg]; exact (below_size (bl HB)) : w.heap.size ≤ gb375)); have GE375 := Aside0.mk ((by rw [hg]; exact (below_size (bl HB)) : w.heap.size ≤ gb375)); have NB374_375 := nb BK374 hg; have NB375_374 := bn BK374 hg; replace BK374 := Aside0.mk (blk_below (bo BK374) hb); replace HB := Aside0.mk (below_step (bl HB) hb); clear hb hbox hg) | ((with_reducible refine gate_dst (N := 5) rfl ?_); (try (refine gate_guard (by rfl) ?_; dsimp only)); refine box_event ?hg (N := 5) ?hd (cs := #[.int .i64 a2_0, .int .i64 a2_1]) (t := 28) ?hr ?_; (case hd => rfl); (case hg => rfl); (case hr => first | (go_simp; done) | (go_simp; rfl)); intro gb376 hg w7 hbox hb; have BK376 := Aside0.mk (hbox); have GW376 := Aside0.mk ((by rw [hg]; exact (below_size (bl HB)) : w.heap.size ≤ gb376)); have GE376 := Aside0.mk ((by rw [hg]; exact (below_size (bl HB)) : w.heap.size ≤ gb376)); have NB374_376 := nb BK374 hg; have NB376_374 := bn BK374 hg; have NB375_376 := nb BK375 hg; have NB376_375 := bn BK375 hg; replace BK374 := Aside0.mk (blk_below (bo BK374) hb); replace BK375 := Aside0.mk (blk_below (bo BK375) hb); replace HB := Aside0.mk (below_step (bl HB) hb); clear hb hbox hg))
 replace BK374 := Aside0.mk (blk_drew BK374.out)
 replace BK375 := Aside0.mk (blk_drew BK375.out)
 replace BK376 := Aside0.mk (blk_drew BK376.out)
 replace HB := Aside0.mk (below_drew1 HB.out)
 refine start_ (n := 6) (S := fun w' => w'.cell? ⟨gb376, 0, none⟩ = some (.int .i64 a2_0) ∧ w'.cell? ⟨gb376, 1, none⟩ = some (.int .i64 a2_1)) (ds := []) #[false, false, false, false, false, false] (by kernel_rfl) rfl rfl ⟨(blk_cell BK376.out 0).trans rfl, (blk_cell BK376.out 1).trans rfl⟩ (fun hHeld => ?_)
 generalize w7.drew = w8 at BK374 BK375 BK376 HB hHeld ⊢
 refine pureB 0 17 ?_
 refine pureB 2 19 ?_
 refine takeB' 1 18 hHeld ?_
 refine pureB 4 7 ?_
 refine takeB' 3 20 hHeld ?_
 refine pureB 5 8 ?_
 refine done_ (by kernel_rfl) ?_
 go_upto_region 2 with (fail)
 go_cut [47] (fun v47 wc => ∃ (kq : Nat) (x47_3 : Bool), v47 = .bool x47_3 ∧ Aside0 (sandglasslaw12_RingMay.j0 kq a2_0 a2_1 x47_3 a0_0 a0_1 a0_2 a0_3 a1_0 a1_1 l1_2 l1_3 = some r) ∧ Aside0 (kq ≤ k) ∧ Aside0 (wc.heap[gb374]? = some (.cells #[.int .i64 a0_0, .int .i64 a0_1, .int .i64 a0_2, .int .i64 a0_3] 23 (0, 0))) ∧ Aside0 (wc.heap[gb375]? = some (.cells #[.int .i64 a1_0, .int .i64 a1_1, (.slice A1_2 l1_2.length c1_2), (.slice A1_3 l1_3.length c1_3)] 27 (0, 0))) ∧ Aside0 (wc.heap[gb376]? = some (.cells #[.int .i64 a2_0, .int .i64 a2_1] 28 (0, 0))) ∧ Aside0 (Below w.heap.size w wc))
 case first =>
  as_aux_lemma =>
  have H := HC4.out
  clear HC4
  replace H := Option.bind_eq_some_iff.mp H
  obtain ⟨t377, A90, H⟩ := H
  have A9 := Aside0.mk A90
  clear A90
  by_cases c10 : t377 = true
  ·subst c10
   rw [if_pos rfl] at H
   replace H := Option.bind_eq_some_iff.mp H
   obtain ⟨t378, A110, H⟩ := H
   have A11 := Aside0.mk A110
   clear A110
   by_cases c12 : t378 = true
   ·subst c12
    rw [if_pos rfl] at H
    by_cases c13 : a2_0 < 0
    ·rw [if_pos c13] at H
     have c13b0 : decide (a2_0 < 0) = true := decide_eq_true c13
     clear c13
     (first | rw [c13b0] | (simp only [i64_w, i32_w]; rw [c13b0]) | skip)
     have H' := Aside0.mk H
     clear H
     have hnb14 := NB375_374.out
     have hnc14 := NB374_375.out
     have hnb15 := NB375_376.out
     have hnc15 := NB376_375.out
     obtain ⟨hcz16_0, hcz16_1, hcz16_2, hcz16_3⟩ := ce4 BK375
     obtain ⟨hfz16_0, hfz16_1, hfz16_2, hfz16_3⟩ := fr4 BK375
     go_wp2_with (first | ((with_reducible refine gate_callee (f := 8) rfl ?_); refine goesL_ (some 22) rfl rfl Try.func8 (by kernel_rfl) rfl #[.agg #[.int .i64 a1_0, .int .i64 a1_1, .slice A1_2 l1_2.length c1_2, .slice A1_3 l1_3.length c1_3]] rfl (by (try simp only [List.map_toArray, List.map_cons, List.map_nil]); first | done | rfl | (simp only [List.length_drop, List.length_take]; rfl)) ?_; (with_reducible refine (sandglassref10_Few.calls a1_0 a1_1 _ _ l1_2 _ _ l1_3 true _ ?side1 ?side2 ?side3 ?side4 A9.out).mono ?_); (case side1 => repeat (first | exact (Kd.C_below HR1_2.out HB.out) | (with_reducible refine Kd.C_alloc ?_ _) | (with_reducible refine Kd.C_drewN ?_ _) | (with_reducible refine Kd.C_drew ?_))); (case side2 => exact HC1_2.out); (case side3 => repeat (first | exact (Kd.C_below HR1_3.out HB.out) | (with_reducible refine Kd.C_alloc ?_ _) | (with_reducible refine Kd.C_drewN ?_ _) | (with_reducible refine Kd.C_drew ?_))); (case side4 => exact HC1_3.out); rintro e w17 ⟨rfl, hb⟩; refine ⟨_, rfl, ?_⟩; replace BK374 := Aside0.mk (blk_below (bo BK374) hb); replace BK375 := Aside0.mk (blk_below (bo BK375) hb); replace BK376 := Aside0.mk (blk_below (bo BK376) hb); replace HB := Aside0.mk (below_step (bl HB) hb); (try clear hb); (try clear hb2); (try clear hk); (try clear hi); have hnb18 := NB374_376.out; have hnc18 := NB376_374.out; obtain ⟨hcz19_0, hcz19_1, hcz19_2, hcz19_3⟩ := ce4 BK374; obtain ⟨hfz19_0, hfz19_1, hfz19_2, hfz19_3⟩ := fr4 BK374; obtain ⟨hcz20_0, hcz20_1, hcz20_2, hcz20_3⟩ := ce4 BK375; obtain ⟨hfz20_0, hfz20_1, hfz20_2, hfz20_3⟩ := fr4 BK375) | (go_at_call 14; (with_reducible refine (sandglassref12_May.calls k a0_0 a0_1 a0_2 a0_3 a1_0 a1_1 _ _ l1_2 _ _ l1_3 true _ ?side1 ?side2 ?side3 ?side4 A11.out).mono ?_); (case side1 => repeat (first | exact (Kd.C_below HR1_2.out HB.out) | (with_reducible refine Kd.C_alloc ?_ _) | (with_reducible refine Kd.C_drewN ?_ _) | (with_reducible refine Kd.C_drew ?_))); (case side2 => exact HC1_2.out); (case side3 => repeat (first | exact (Kd.C_below HR1_3.out HB.out) | (with_reducible refine Kd.C_alloc ?_ _) | (with_reducible refine Kd.C_drewN ?_ _) | (with_reducible refine Kd.C_drew ?_))); (case side4 => exact HC1_3.out); rintro e w21 ⟨rfl, hb⟩; replace BK374 := Aside0.mk (blk_below (bo BK374) hb); replace BK375 := Aside0.mk (blk_below (bo BK375) hb); replace BK376 := Aside0.mk (blk_below (bo BK376) hb); replace HB := Aside0.mk (below_step (bl HB) hb); (try clear hb); (try clear hb2); (try clear hk); (try clear hi)))
     go_meet
     case rel => exact ⟨_, (true), (by first | (with_reducible rfl) | rfl | (simp; done) | (simp [*]; done)), H', ⟨by first | omega | exact Nat.le_refl _⟩, ⟨bo BK374⟩, ⟨bo BK375⟩, ⟨bo BK376⟩, ⟨bl HB⟩⟩
    ·rw [if_neg c13] at H
     have c13b0 : decide (a2_0 < 0) = false := decide_eq_false c13
     clear c13
     (first | rw [c13b0] | (simp only [i64_w, i32_w]; rw [c13b0]) | skip)
     by_cases c22 : a2_0 > 549755813888
     ·rw [if_pos c22] at H
      have c22b0 : decide (549755813888 < a2_0) = true := decide_eq_true c22
      clear c22
      have H' := Aside0.mk H
      clear H
      have hnb23 := NB375_374.out
      have hnc23 := NB374_375.out
      have hnb24 := NB375_376.out
      have hnc24 := NB376_375.out
      obtain ⟨hcz25_0, hcz25_1, hcz25_2, hcz25_3⟩ := ce4 BK375
      obtain ⟨hfz25_0, hfz25_1, hfz25_2, hfz25_3⟩ := fr4 BK375
      go_wp2_with (first | ((with_reducible refine gate_callee (f := 8) rfl ?_); refine goesL_ (some 22) rfl rfl Try.func8 (by kernel_rfl) rfl #[.agg #[.int .i64 a1_0, .int .i64 a1_1, .slice A1_2 l1_2.length c1_2, .slice A1_3 l1_3.length c1_3]] rfl (by (try simp only [List.map_toArray, List.map_cons, List.map_nil]); first | done | rfl | (simp only [List.length_drop, List.length_take]; rfl)) ?_; (with_reducible refine (sandglassref10_Few.calls a1_0 a1_1 _ _ l1_2 _ _ l1_3 true _ ?side1 ?side2 ?side3 ?side4 A9.out).mono ?_); (case side1 => repeat (first | exact (Kd.C_below HR1_2.out HB.out) | (with_reducible refine Kd.C_alloc ?_ _) | (with_reducible refine Kd.C_drewN ?_ _) | (with_reducible refine Kd.C_drew ?_))); (case side2 => exact HC1_2.out); (case side3 => repeat (first | exact (Kd.C_below HR1_3.out HB.out) | (with_reducible refine Kd.C_alloc ?_ _) | (with_reducible refine Kd.C_drewN ?_ _) | (with_reducible refine Kd.C_drew ?_))); (case side4 => exact HC1_3.out); rintro e w26 ⟨rfl, hb⟩; refine ⟨_, rfl, ?_⟩; replace BK374 := Aside0.mk (blk_below (bo BK374) hb); replace BK375 := Aside0.mk (blk_below (bo BK375) hb); replace BK376 := Aside0.mk (blk_below (bo BK376) hb); replace HB := Aside0.mk (below_step (bl HB) hb); (try clear hb); (try clear hb2); (try clear hk); (try clear hi); have hnb27 := NB374_376.out; have hnc27 := NB376_374.out; obtain ⟨hcz28_0, hcz28_1, hcz28_2, hcz28_3⟩ := ce4 BK374; obtain ⟨hfz28_0, hfz28_1, hfz28_2, hfz28_3⟩ := fr4 BK374; obtain ⟨hcz29_0, hcz29_1, hcz29_2, hcz29_3⟩ := ce4 BK375; obtain ⟨hfz29_0, hfz29_1, hfz29_2, hfz29_3⟩ := fr4 BK375) | (go_at_call 14; (with_reducible refine (sandglassref12_May.calls k a0_0 a0_1 a0_2 a0_3 a1_0 a1_1 _ _ l1_2 _ _ l1_3 true _ ?side1 ?side2 ?side3 ?side4 A11.out).mono ?_); (case side1 => repeat (first | exact (Kd.C_below HR1_2.out HB.out) | (with_reducible refine Kd.C_alloc ?_ _) | (with_reducible refine Kd.C_drewN ?_ _) | (with_reducible refine Kd.C_drew ?_))); (case side2 => exact HC1_2.out); (case side3 => repeat (first | exact (Kd.C_below HR1_3.out HB.out) | (with_reducible refine Kd.C_alloc ?_ _) | (with_reducible refine Kd.C_drewN ?_ _) | (with_reducible refine Kd.C_drew ?_))); (case side4 => exact HC1_3.out); rintro e w30 ⟨rfl, hb⟩; replace BK374 := Aside0.mk (blk_below (bo BK374) hb); replace BK375 := Aside0.mk (blk_below (bo BK375) hb); replace BK376 := Aside0.mk (blk_below (bo BK376) hb); replace HB := Aside0.mk (below_step (bl HB) hb); (try clear hb); (try clear hb2); (try clear hk); (try clear hi)))
      go_meet
      case rel => exact ⟨_, (true), (by first | (with_reducible rfl) | rfl | (simp; done) | (simp [*]; done)), H', ⟨by first | omega | exact Nat.le_refl _⟩, ⟨bo BK374⟩, ⟨bo BK375⟩, ⟨bo BK376⟩, ⟨bl HB⟩⟩
     ·rw [if_neg c22] at H
      have c22b0 : decide (549755813888 < a2_0) = false := decide_eq_false c22
      clear c22
      by_cases c31 : a1_0 > 549755813888
      ·rw [if_pos c31] at H
       have c31b0 : decide (549755813888 < a1_0) = true := decide_eq_true c31
       clear c31
       have H' := Aside0.mk H
       clear H
       have hnb32 := NB375_374.out
       have hnc32 := NB374_375.out
       have hnb33 := NB375_376.out
       have hnc33 := NB376_375.out
       obtain ⟨hcz34_0, hcz34_1, hcz34_2, hcz34_3⟩ := ce4 BK375
       obtain ⟨hfz34_0, hfz34_1, hfz34_2, hfz34_3⟩ := fr4 BK375
       go_wp2_with (first | ((with_reducible refine gate_callee (f := 8) rfl ?_); refine goesL_ (some 22) rfl rfl Try.func8 (by kernel_rfl) rfl #[.agg #[.int .i64 a1_0, .int .i64 a1_1, .slice A1_2 l1_2.length c1_2, .slice A1_3 l1_3.length c1_3]] rfl (by (try simp only [List.map_toArray, List.map_cons, List.map_nil]); first | done | rfl | (simp only [List.length_drop, List.length_take]; rfl)) ?_; (with_reducible refine (sandglassref10_Few.calls a1_0 a1_1 _ _ l1_2 _ _ l1_3 true _ ?side1 ?side2 ?side3 ?side4 A9.out).mono ?_); (case side1 => repeat (first | exact (Kd.C_below HR1_2.out HB.out) | (with_reducible refine Kd.C_alloc ?_ _) | (with_reducible refine Kd.C_drewN ?_ _) | (with_reducible refine Kd.C_drew ?_))); (case side2 => exact HC1_2.out); (case side3 => repeat (first | exact (Kd.C_below HR1_3.out HB.out) | (with_reducible refine Kd.C_alloc ?_ _) | (with_reducible refine Kd.C_drewN ?_ _) | (with_reducible refine Kd.C_drew ?_))); (case side4 => exact HC1_3.out); rintro e w35 ⟨rfl, hb⟩; refine ⟨_, rfl, ?_⟩; replace BK374 := Aside0.mk (blk_below (bo BK374) hb); replace BK375 := Aside0.mk (blk_below (bo BK375) hb); replace BK376 := Aside0.mk (blk_below (bo BK376) hb); replace HB := Aside0.mk (below_step (bl HB) hb); (try clear hb); (try clear hb2); (try clear hk); (try clear hi); have hnb36 := NB374_376.out; have hnc36 := NB376_374.out; obtain ⟨hcz37_0, hcz37_1, hcz37_2, hcz37_3⟩ := ce4 BK374; obtain ⟨hfz37_0, hfz37_1, hfz37_2, hfz37_3⟩ := fr4 BK374; obtain ⟨hcz38_0, hcz38_1, hcz38_2, hcz38_3⟩ := ce4 BK375; obtain ⟨hfz38_0, hfz38_1, hfz38_2, hfz38_3⟩ := fr4 BK375) | (go_at_call 14; (with_reducible refine (sandglassref12_May.calls k a0_0 a0_1 a0_2 a0_3 a1_0 a1_1 _ _ l1_2 _ _ l1_3 true _ ?side1 ?side2 ?side3 ?side4 A11.out).mono ?_); (case side1 => repeat (first | exact (Kd.C_below HR1_2.out HB.out) | (with_reducible refine Kd.C_alloc ?_ _) | (with_reducible refine Kd.C_drewN ?_ _) | (with_reducible refine Kd.C_drew ?_))); (case side2 => exact HC1_2.out); (case side3 => repeat (first | exact (Kd.C_below HR1_3.out HB.out) | (with_reducible refine Kd.C_alloc ?_ _) | (with_reducible refine Kd.C_drewN ?_ _) | (with_reducible refine Kd.C_drew ?_))); (case side4 => exact HC1_3.out); rintro e w39 ⟨rfl, hb⟩; replace BK374 := Aside0.mk (blk_below (bo BK374) hb); replace BK375 := Aside0.mk (blk_below (bo BK375) hb); replace BK376 := Aside0.mk (blk_below (bo BK376) hb); replace HB := Aside0.mk (below_step (bl HB) hb); (try clear hb); (try clear hb2); (try clear hk); (try clear hi); obtain ⟨hcz40_0, hcz40_1, hcz40_2, hcz40_3⟩ := ce4 BK375; obtain ⟨hfz40_0, hfz40_1, hfz40_2, hfz40_3⟩ := fr4 BK375))
       go_meet
       case rel => exact ⟨_, (true), (by first | (with_reducible rfl) | rfl | (simp; done) | (simp [*]; done)), H', ⟨by first | omega | exact Nat.le_refl _⟩, ⟨bo BK374⟩, ⟨bo BK375⟩, ⟨bo BK376⟩, ⟨bl HB⟩⟩
      ·rw [if_neg c31] at H
       have c31b0 : decide (549755813888 < a1_0) = false := decide_eq_false c31
       clear c31
       replace H := Option.bind_eq_some_iff.mp H
       obtain ⟨t379, A410, H⟩ := H
       have A41 := Aside0.mk A410
       clear A410
       have H' := Aside0.mk H
       clear H
       have hnb42 := NB375_374.out
       have hnc42 := NB374_375.out
       have hnb43 := NB375_376.out
       have hnc43 := NB376_375.out
       obtain ⟨hcz44_0, hcz44_1, hcz44_2, hcz44_3⟩ := ce4 BK375
       obtain ⟨hfz44_0, hfz44_1, hfz44_2, hfz44_3⟩ := fr4 BK375
       go_wp2_with (first | ((with_reducible refine gate_callee (f := 8) rfl ?_); refine goesL_ (some 22) rfl rfl Try.func8 (by kernel_rfl) rfl #[.agg #[.int .i64 a1_0, .int .i64 a1_1, .slice A1_2 l1_2.length c1_2, .slice A1_3 l1_3.length c1_3]] rfl (by (try simp only [List.map_toArray, List.map_cons, List.map_nil]); first | done | rfl | (simp only [List.length_drop, List.length_take]; rfl)) ?_; (with_reducible refine (sandglassref10_Few.calls a1_0 a1_1 _ _ l1_2 _ _ l1_3 true _ ?side1 ?side2 ?side3 ?side4 A9.out).mono ?_); (case side1 => repeat (first | exact (Kd.C_below HR1_2.out HB.out) | (with_reducible refine Kd.C_alloc ?_ _) | (with_reducible refine Kd.C_drewN ?_ _) | (with_reducible refine Kd.C_drew ?_))); (case side2 => exact HC1_2.out); (case side3 => repeat (first | exact (Kd.C_below HR1_3.out HB.out) | (with_reducible refine Kd.C_alloc ?_ _) | (with_reducible refine Kd.C_drewN ?_ _) | (with_reducible refine Kd.C_drew ?_))); (case side4 => exact HC1_3.out); rintro e w45 ⟨rfl, hb⟩; refine ⟨_, rfl, ?_⟩; replace BK374 := Aside0.mk (blk_below (bo BK374) hb); replace BK375 := Aside0.mk (blk_below (bo BK375) hb); replace BK376 := Aside0.mk (blk_below (bo BK376) hb); replace HB := Aside0.mk (below_step (bl HB) hb); (try clear hb); (try clear hb2); (try clear hk); (try clear hi); have hnb46 := NB374_376.out; have hnc46 := NB376_374.out; obtain ⟨hcz47_0, hcz47_1, hcz47_2, hcz47_3⟩ := ce4 BK374; obtain ⟨hfz47_0, hfz47_1, hfz47_2, hfz47_3⟩ := fr4 BK374; obtain ⟨hcz48_0, hcz48_1, hcz48_2, hcz48_3⟩ := ce4 BK375; obtain ⟨hfz48_0, hfz48_1, hfz48_2, hfz48_3⟩ := fr4 BK375) | (go_at_call 14; (with_reducible refine (sandglassref12_May.calls k a0_0 a0_1 a0_2 a0_3 a1_0 a1_1 _ _ l1_2 _ _ l1_3 true _ ?side1 ?side2 ?side3 ?side4 A11.out).mono ?_); (case side1 => repeat (first | exact (Kd.C_below HR1_2.out HB.out) | (with_reducible refine Kd.C_alloc ?_ _) | (with_reducible refine Kd.C_drewN ?_ _) | (with_reducible refine Kd.C_drew ?_))); (case side2 => exact HC1_2.out); (case side3 => repeat (first | exact (Kd.C_below HR1_3.out HB.out) | (with_reducible refine Kd.C_alloc ?_ _) | (with_reducible refine Kd.C_drewN ?_ _) | (with_reducible refine Kd.C_drew ?_))); (case side4 => exact HC1_3.out); rintro e w49 ⟨rfl, hb⟩; replace BK374 := Aside0.mk (blk_below (bo BK374) hb); replace BK375 := Aside0.mk (blk_below (bo BK375) hb); replace BK376 := Aside0.mk (blk_below (bo BK376) hb); replace HB := Aside0.mk (below_step (bl HB) hb); (try clear hb); (try clear hb2); (try clear hk); (try clear hi); obtain ⟨hcz50_0, hcz50_1, hcz50_2, hcz50_3⟩ := ce4 BK375; obtain ⟨hfz50_0, hfz50_1, hfz50_2, hfz50_3⟩ := fr4 BK375) | (go_at_call 19; (with_reducible refine (sandglassref09_Weighs.calls a2_1 t379 _ A41.out).mono ?_); rintro e w' ⟨rfl, ⟨nd, rfl⟩⟩))
       go_meet
       case rel => exact ⟨_, (!t379), (by first | (with_reducible rfl) | rfl | (simp; done) | (simp [*]; done)), H', ⟨by first | omega | exact Nat.le_refl _⟩, ⟨bo BK374⟩, ⟨bo BK375⟩, ⟨bo BK376⟩, ⟨bl HB⟩⟩
   ·replace c12 := Bool.eq_false_iff.mpr c12
    subst c12
    rw [if_neg (show ¬ (false = true) by decide)] at H
    have H' := Aside0.mk H
    clear H
    have hnb51 := NB375_374.out
    have hnc51 := NB374_375.out
    have hnb52 := NB375_376.out
    have hnc52 := NB376_375.out
    obtain ⟨hcz53_0, hcz53_1, hcz53_2, hcz53_3⟩ := ce4 BK375
    obtain ⟨hfz53_0, hfz53_1, hfz53_2, hfz53_3⟩ := fr4 BK375
    go_wp2_with (first | ((with_reducible refine gate_callee (f := 8) rfl ?_); refine goesL_ (some 22) rfl rfl Try.func8 (by kernel_rfl) rfl #[.agg #[.int .i64 a1_0, .int .i64 a1_1, .slice A1_2 l1_2.length c1_2, .slice A1_3 l1_3.length c1_3]] rfl (by (try simp only [List.map_toArray, List.map_cons, List.map_nil]); first | done | rfl | (simp only [List.length_drop, List.length_take]; rfl)) ?_; (with_reducible refine (sandglassref10_Few.calls a1_0 a1_1 _ _ l1_2 _ _ l1_3 true _ ?side1 ?side2 ?side3 ?side4 A9.out).mono ?_); (case side1 => repeat (first | exact (Kd.C_below HR1_2.out HB.out) | (with_reducible refine Kd.C_alloc ?_ _) | (with_reducible refine Kd.C_drewN ?_ _) | (with_reducible refine Kd.C_drew ?_))); (case side2 => exact HC1_2.out); (case side3 => repeat (first | exact (Kd.C_below HR1_3.out HB.out) | (with_reducible refine Kd.C_alloc ?_ _) | (with_reducible refine Kd.C_drewN ?_ _) | (with_reducible refine Kd.C_drew ?_))); (case side4 => exact HC1_3.out); rintro e w54 ⟨rfl, hb⟩; refine ⟨_, rfl, ?_⟩; replace BK374 := Aside0.mk (blk_below (bo BK374) hb); replace BK375 := Aside0.mk (blk_below (bo BK375) hb); replace BK376 := Aside0.mk (blk_below (bo BK376) hb); replace HB := Aside0.mk (below_step (bl HB) hb); (try clear hb); (try clear hb2); (try clear hk); (try clear hi); have hnb55 := NB374_376.out; have hnc55 := NB376_374.out; obtain ⟨hcz56_0, hcz56_1, hcz56_2, hcz56_3⟩ := ce4 BK374; obtain ⟨hfz56_0, hfz56_1, hfz56_2, hfz56_3⟩ := fr4 BK374; obtain ⟨hcz57_0, hcz57_1, hcz57_2, hcz57_3⟩ := ce4 BK375; obtain ⟨hfz57_0, hfz57_1, hfz57_2, hfz57_3⟩ := fr4 BK375) | (go_at_call 14; (with_reducible refine (sandglassref12_May.calls k a0_0 a0_1 a0_2 a0_3 a1_0 a1_1 _ _ l1_2 _ _ l1_3 false _ ?side1 ?side2 ?side3 ?side4 A11.out).mono ?_); (case side1 => repeat (first | exact (Kd.C_below HR1_2.out HB.out) | (with_reducible refine Kd.C_alloc ?_ _) | (with_reducible refine Kd.C_drewN ?_ _) | (with_reducible refine Kd.C_drew ?_))); (case side2 => exact HC1_2.out); (case side3 => repeat (first | exact (Kd.C_below HR1_3.out HB.out) | (with_reducible refine Kd.C_alloc ?_ _) | (with_reducible refine Kd.C_drewN ?_ _) | (with_reducible refine Kd.C_drew ?_))); (case side4 => exact HC1_3.out); rintro e w58 ⟨rfl, hb⟩; replace BK374 := Aside0.mk (blk_below (bo BK374) hb); replace BK375 := Aside0.mk (blk_below (bo BK375) hb); replace BK376 := Aside0.mk (blk_below (bo BK376) hb); replace HB := Aside0.mk (below_step (bl HB) hb); (try clear hb); (try clear hb2); (try clear hk); (try clear hi)))
    go_meet
    case rel => exact ⟨_, (true), (by first | (with_reducible rfl) | rfl | (simp; done) | (simp [*]; done)), H', ⟨by first | omega | exact Nat.le_refl _⟩, ⟨bo BK374⟩, ⟨bo BK375⟩, ⟨bo BK376⟩, ⟨bl HB⟩⟩
  ·replace c10 := Bool.eq_false_iff.mpr c10
   subst c10
   rw [if_neg (show ¬ (false = true) by decide)] at H
   have H' := Aside0.mk H
   clear H
   have hnb59 := NB375_374.out
   have hnc59 := NB374_375.out
   have hnb60 := NB375_376.out
   have hnc60 := NB376_375.out
   obtain ⟨hcz61_0, hcz61_1, hcz61_2, hcz61_3⟩ := ce4 BK375
   obtain ⟨hfz61_0, hfz61_1, hfz61_2, hfz61_3⟩ := fr4 BK375
   go_wp2_with (first | ((with_reducible refine gate_callee (f := 8) rfl ?_); refine goesL_ (some 22) rfl rfl Try.func8 (by kernel_rfl) rfl #[.agg #[.int .i64 a1_0, .int .i64 a1_1, .slice A1_2 l1_2.length c1_2, .slice A1_3 l1_3.length c1_3]] rfl (by (try simp only [List.map_toArray, List.map_cons, List.map_nil]); first | done | rfl | (simp only [List.length_drop, List.length_take]; rfl)) ?_; (with_reducible refine (sandglassref10_Few.calls a1_0 a1_1 _ _ l1_2 _ _ l1_3 false _ ?side1 ?side2 ?side3 ?side4 A9.out).mono ?_); (case side1 => repeat (first | exact (Kd.C_below HR1_2.out HB.out) | (with_reducible refine Kd.C_alloc ?_ _) | (with_reducible refine Kd.C_drewN ?_ _) | (with_reducible refine Kd.C_drew ?_))); (case side2 => exact HC1_2.out); (case side3 => repeat (first | exact (Kd.C_below HR1_3.out HB.out) | (with_reducible refine Kd.C_alloc ?_ _) | (with_reducible refine Kd.C_drewN ?_ _) | (with_reducible refine Kd.C_drew ?_))); (case side4 => exact HC1_3.out); rintro e w62 ⟨rfl, hb⟩; refine ⟨_, rfl, ?_⟩; replace BK374 := Aside0.mk (blk_below (bo BK374) hb); replace BK375 := Aside0.mk (blk_below (bo BK375) hb); replace BK376 := Aside0.mk (blk_below (bo BK376) hb); replace HB := Aside0.mk (below_step (bl HB) hb); (try clear hb); (try clear hb2); (try clear hk); (try clear hi)))
   go_meet
   case rel => exact ⟨_, (true), (by first | (with_reducible rfl) | rfl | (simp; done) | (simp [*]; done)), H', ⟨by first | omega | exact Nat.le_refl _⟩, ⟨bo BK374⟩, ⟨bo BK375⟩, ⟨bo BK376⟩, ⟨bl HB⟩⟩
 case rest =>
  as_aux_lemma =>
  clear HC4
  try clear c10; try clear c12; try clear c13; try clear c13b0; try clear c22; try clear c22b0; try clear c31; try clear c31b0; try clear hcz16_0; try clear hcz16_1; try clear hcz16_2; try clear hcz16_3; try clear hcz19_0; try clear hcz19_1; try clear hcz19_2; try clear hcz19_3; try clear hcz20_0; try clear hcz20_1; try clear hcz20_2; try clear hcz20_3; try clear hcz25_0; try clear hcz25_1; try clear hcz25_2; try clear hcz25_3; try clear hcz28_0; try clear hcz28_1; try clear hcz28_2; try clear hcz28_3; try clear hcz29_0; try clear hcz29_1; try clear hcz29_2; try clear hcz29_3; try clear hcz34_0; try clear hcz34_1; try clear hcz34_2; try clear hcz34_3; try clear hcz37_0; try clear hcz37_1; try clear hcz37_2; try clear hcz37_3; try clear hcz38_0; try clear hcz38_1; try clear hcz38_2; try clear hcz38_3; try clear hcz40_0; try clear hcz40_1; try clear hcz40_2; try clear hcz40_3; try clear hcz44_0; try clear hcz44_1; try clear hcz44_2; try clear hcz44_3; try clear hcz47_0; try clear hcz47_1; try clear hcz47_2; try clear hcz47_3; try clear hcz48_0; try clear hcz48_1; try clear hcz48_2; try clear hcz48_3; try clear hcz50_0; try clear hcz50_1; try clear hcz50_2; try clear hcz50_3; try clear hcz53_0; try clear hcz53_1; try clear hcz53_2; try clear hcz53_3; try clear hcz56_0; try clear hcz56_1; try clear hcz56_2; try clear hcz56_3; try clear hcz57_0; try clear hcz57_1; try clear hcz57_2; try clear hcz57_3; try clear hcz61_0; try clear hcz61_1; try clear hcz61_2; try clear hcz61_3; try clear hfz16_0; try clear hfz16_1; try clear hfz16_2; try clear hfz16_3; try clear hfz19_0; try clear hfz19_1; try clear hfz19_2; try clear hfz19_3; try clear hfz20_0; try clear hfz20_1; try clear hfz20_2; try clear hfz20_3; try clear hfz25_0; try clear hfz25_1; try clear hfz25_2; try clear hfz25_3; try clear hfz28_0; try clear hfz28_1; try clear hfz28_2; try clear hfz28_3; try clear hfz29_0; try clear hfz29_1; try clear hfz29_2; try clear hfz29_3; try clear hfz34_0; try clear hfz34_1; try clear hfz34_2; try clear hfz34_3; try clear hfz37_0; try clear hfz37_1; try clear hfz37_2; try clear hfz37_3; try clear hfz38_0; try clear hfz38_1; try clear hfz38_2; try clear hfz38_3; try clear hfz40_0; try clear hfz40_1; try clear hfz40_2; try clear hfz40_3; try clear hfz44_0; try clear hfz44_1; try clear hfz44_2; try clear hfz44_3; try clear hfz47_0; try clear hfz47_1; try clear hfz47_2; try clear hfz47_3; try clear hfz48_0; try clear hfz48_1; try clear hfz48_2; try clear hfz48_3; try clear hfz50_0; try clear hfz50_1; try clear hfz50_2; try clear hfz50_3; try clear hfz53_0; try clear hfz53_1; try clear hfz53_2; try clear hfz53_3; try clear hfz56_0; try clear hfz56_1; try clear hfz56_2; try clear hfz56_3; try clear hfz57_0; try clear hfz57_1; try clear hfz57_2; try clear hfz57_3; try clear hfz61_0; try clear hfz61_1; try clear hfz61_2; try clear hfz61_3
  obtain ⟨kq, x47_3, rfl, HA, HJ3, BK374, BK375, BK376, HB⟩ := hcut
  cases kq with
  | zero => exact absurd HA.out (by simp [sandglasslaw12_RingMay.j0])
  | succ kj3 =>
   have H := HA.out
   clear HA
   simp only [sandglasslaw12_RingMay.j0] at H
   by_cases c63 : x47_3 = true
   ·subst c63
    rw [if_pos rfl] at H
    replace H := Option.bind_eq_some_iff.mp H
    obtain ⟨t380, A640, H⟩ := H
    have A64 := Aside0.mk A640
    clear A640
    obtain rfl := Option.some.inj H
    go_wp2_with (first | ((with_reducible refine gate_callee (f := 9) rfl ?_); refine goesL_ (some 48) rfl rfl Try.func9 (by kernel_rfl) rfl #[] rfl (by (try simp only [List.map_toArray, List.map_cons, List.map_nil]); first | done | rfl | (simp only [List.length_drop, List.length_take]; rfl)) ?_; (with_reducible refine (sandglasslaw12_live.calls kj3  t380 _ A64.out).mono ?_); rintro e w65 ⟨rfl, hb⟩; refine ⟨_, rfl, ?_⟩; replace BK374 := Aside0.mk (blk_below (bo BK374) hb); replace BK375 := Aside0.mk (blk_below (bo BK375) hb); replace BK376 := Aside0.mk (blk_below (bo BK376) hb); replace HB := Aside0.mk (below_step (bl HB) hb); (try clear hb); (try clear hb2); (try clear hk); (try clear hi)))
    go_ret
    exact ⟨by first | (with_reducible rfl) | rfl | (simp [errW_none, errW_some] <;> rfl) | (simp [*, errW_none, errW_some] <;> rfl), bl HB⟩
   ·replace c63 := Bool.eq_false_iff.mpr c63
    subst c63
    rw [if_neg (show ¬ (false = true) by decide)] at H
    replace H := Option.bind_eq_some_iff.mp H
    obtain ⟨⟨t381, t382, t383, t386, t389, t390, t391, t392⟩, A660, H⟩ := H
    have A66 := Aside0.mk A660
    clear A660
    have HC67 := Aside0.mk H
    clear H
    have hnb68 := NB374_375.out
    have hnc68 := NB375_374.out
    have hnb69 := NB374_376.out
    have hnc69 := NB376_374.out
    obtain ⟨hcz70_0, hcz70_1, hcz70_2, hcz70_3⟩ := ce4 BK374
    obtain ⟨hfz70_0, hfz70_1, hfz70_2, hfz70_3⟩ := fr4 BK374
    have hnb71 := NB375_376.out
    have hnc71 := NB376_375.out
    obtain ⟨hcz72_0, hcz72_1, hcz72_2, hcz72_3⟩ := ce4 BK375
    obtain ⟨hfz72_0, hfz72_1, hfz72_2, hfz72_3⟩ := fr4 BK375
    go_upto_region 5 with (first | ((with_reducible refine gate_callee (f := 10) rfl ?_); refine goesL_ (some 54) rfl rfl Try.func10 (by kernel_rfl) rfl #[.agg #[.int .i64 a0_0, .int .i64 a0_1, .int .i64 a0_2, .int .i64 a0_3], .agg #[.int .i64 a1_0, .int .i64 a1_1, .slice A1_2 l1_2.length c1_2, .slice A1_3 l1_3.length c1_3], .int .i64 a2_0, .int .i64 a2_1] rfl (by (try simp only [List.map_toArray, List.map_cons, List.map_nil]); first | done | rfl | (simp only [List.length_drop, List.length_take]; rfl)) ?_; (with_reducible refine (ring_Ask.calls kj3 a0_0 a0_1 a0_2 a0_3 a1_0 a1_1 (fun k_ => k_ < w.heap.size) _ _ l1_2 (fun k_ => k_ < w.heap.size) _ _ l1_3 a2_0 a2_1 t381 t382 t383 t386 t389 t390 t391 t392 _ ?side1 ?side2 A66.out).mono ?_); (case side1 => exact Kd.V_mk HC1_2.out (Kd.F_below (Kd.C_F (Kd.heap_int .i64) HR1_2.out) (bl HB))); (case side2 => exact Kd.V_mk HC1_3.out (Kd.F_below (Kd.C_F k54_heap HR1_3.out) (bl HB))); rintro e w73 ⟨v384, v387, rfl, ho0, ho1, hb⟩; refine ⟨_, rfl, ?_⟩; have HO385 := Aside0.mk (Kd.V_lower (Kd.V_mono (ok' := fun k_ => k_ ≠ gb374 ∧ k_ ≠ gb375 ∧ k_ ≠ gb376) ho0 (fun k_ hk_ => ⟨Or.elim hk_ (fun hs_ => Or.elim hs_ (fun hs_ => fun e_ => Nat.not_le.2 hs_ (by rw [e_]; exact GW374.out)) (fun hs_ => fun e_ => Nat.not_le.2 hs_ (by rw [e_]; exact GW374.out))) (fun hn_ => (Kd.freshB (bo BK374) k_ hn_)), Or.elim hk_ (fun hs_ => Or.elim hs_ (fun hs_ => fun e_ => Nat.not_le.2 hs_ (by rw [e_]; exact GW375.out)) (fun hs_ => fun e_ => Nat.not_le.2 hs_ (by rw [e_]; exact GW375.out))) (fun hn_ => (Kd.freshB (bo BK375) k_ hn_)), Or.elim hk_ (fun hs_ => Or.elim hs_ (fun hs_ => fun e_ => Nat.not_le.2 hs_ (by rw [e_]; exact GW376.out)) (fun hs_ => fun e_ => Nat.not_le.2 hs_ (by rw [e_]; exact GW376.out))) (fun hn_ => (Kd.freshB (bo BK376) k_ hn_))⟩)) (below_size (bl HB))); have HO388 := Aside0.mk (Kd.V_lower (Kd.V_mono (ok' := fun k_ => k_ ≠ gb374 ∧ k_ ≠ gb375 ∧ k_ ≠ gb376) ho1 (fun k_ hk_ => ⟨Or.elim hk_ (fun hs_ => Or.elim hs_ (fun hs_ => fun e_ => Nat.not_le.2 hs_ (by rw [e_]; exact GW374.out)) (fun hs_ => fun e_ => Nat.not_le.2 hs_ (by rw [e_]; exact GW374.out))) (fun hn_ => (Kd.freshB (bo BK374) k_ hn_)), Or.elim hk_ (fun hs_ => Or.elim hs_ (fun hs_ => fun e_ => Nat.not_le.2 hs_ (by rw [e_]; exact GW375.out)) (fun hs_ => fun e_ => Nat.not_le.2 hs_ (by rw [e_]; exact GW375.out))) (fun hn_ => (Kd.freshB (bo BK375) k_ hn_)), Or.elim hk_ (fun hs_ => Or.elim hs_ (fun hs_ => fun e_ => Nat.not_le.2 hs_ (by rw [e_]; exact GW376.out)) (fun hs_ => fun e_ => Nat.not_le.2 hs_ (by rw [e_]; exact GW376.out))) (fun hn_ => (Kd.freshB (bo BK376) k_ hn_))⟩)) (below_size (bl HB))); replace BK374 := Aside0.mk (blk_below (bo BK374) hb); replace BK375 := Aside0.mk (blk_below (bo BK375) hb); replace BK376 := Aside0.mk (blk_below (bo BK376) hb); replace HB := Aside0.mk (below_step (bl HB) hb); (try clear hb); (try clear hb2); (try clear hk); (try clear hi); (try clear ho0); (try clear ho1)) | ((with_reducible refine gate_dst (N := 9) rfl ?_); (try (refine gate_guard (by rfl) ?_; dsimp only)); refine box_event ?hg (N := 9) ?hd (cs := #[.int .i64 0, .int .i64 0, .slice none 0 0, .slice none 0 0]) (t := 27) ?hr ?_; (case hd => rfl); (case hg => rfl); (case hr => first | (go_simp; done) | (go_simp; rfl)); intro gb393 hg w74 hbox hb; have BK393 := Aside0.mk (hbox); have GW393 := Aside0.mk ((by rw [hg]; exact (below_size (bl HB)) : w.heap.size ≤ gb393)); have GE393 := Aside0.mk ((by rw [hg]; exact (below_size (bl HB)) : w.heap.size ≤ gb393)); have NB374_393 := nb BK374 hg; have NB393_374 := bn BK374 hg; have NB375_393 := nb BK375 hg; have NB393_375 := bn BK375 hg; have NB376_393 := nb BK376 hg; have NB393_376 := bn BK376 hg; replace HO385 := ve HO385 hg hb; replace HO388 := ve HO388 hg hb; replace BK374 := Aside0.mk (blk_below (bo BK374) hb); replace BK375 := Aside0.mk (blk_below (bo BK375) hb); replace BK376 := Aside0.mk (blk_below (bo BK376) hb); replace HB := Aside0.mk (below_step (bl HB) hb); clear hb hbox hg) | ((with_reducible refine gate_dst (N := 10) rfl ?_); (try (refine gate_guard (by rfl) ?_; dsimp only)); refine box_event ?hg (N := 10) ?hd (cs := #[.bool false, .int .i64 0, .int .i64 0, .int .i64 0]) (t := 32) ?hr ?_; (case hd => rfl); (case hg => rfl); (case hr => first | (go_simp; done) | (go_simp; rfl)); intro gb394 hg w75 hbox hb; have BK394 := Aside0.mk (hbox); have GW394 := Aside0.mk ((by rw [hg]; exact (below_size (bl HB)) : w.heap.size ≤ gb394)); have GE394 := Aside0.mk ((by rw [hg]; exact (below_size (bl HB)) : w.heap.size ≤ gb394)); have NB374_394 := nb BK374 hg; have NB394_374 := bn BK374 hg; have NB375_394 := nb BK375 hg; have NB394_375 := bn BK375 hg; have NB376_394 := nb BK376 hg; have NB394_376 := bn BK376 hg; have NB393_394 := nb BK393 hg; have NB394_393 := bn BK393 hg; replace HO385 := ve HO385 hg hb; replace HO388 := ve HO388 hg hb; replace BK374 := Aside0.mk (blk_below (bo BK374) hb); replace BK375 := Aside0.mk (blk_below (bo BK375) hb); replace BK376 := Aside0.mk (blk_below (bo BK376) hb); replace BK393 := Aside0.mk (blk_below (bo BK393) hb); replace HB := Aside0.mk (below_step (bl HB) hb); clear hb hbox hg; have hnb76 := NB393_374.out; have hnc76 := NB374_393.out; have hnb77 := NB393_375.out; have hnc77 := NB375_393.out; have hnb78 := NB393_376.out; have hnc78 := NB376_393.out; have hnb79 := NB393_394.out; have hnc79 := NB394_393.out; obtain ⟨hcz80_0, hcz80_1, hcz80_2, hcz80_3⟩ := ce4 BK393; obtain ⟨hfz80_0, hfz80_1, hfz80_2, hfz80_3⟩ := fr4 BK393; obtain ⟨Ao81, co81, eo81⟩ := Kd.V_slice HO385.out; subst eo81; obtain ⟨Ao82, co82, eo82⟩ := Kd.V_slice HO388.out; subst eo82) | ((with_reducible refine gate_store (t := 27) (p := 9) rfl ?_); refine store_event (t := 27) (p := 9) (v := ?vo_w83) (w1 := ((((w75.setCell ⟨gb393, 0, none⟩ (.int .i64 t381)).setCell ⟨gb393, 1, none⟩ (.int .i64 t382)).setCell ⟨gb393, 2, none⟩ (.slice Ao81 t383.length co81)).setCell ⟨gb393, 3, none⟩ (.slice Ao82 t386.length co82))) ?hg ?ho ?hn ?hr ?_; (case ho => rfl); (case hg => rfl); (case hn => rfl); (case hr => first | (go_simp; done) | (go_simp; rfl)); intro w83 hw; replace HO385 : Aside0 (Kd.V (Kd.int .i64) 3 w83 w.heap.size (fun k_ => k_ ≠ gb374 ∧ k_ ≠ gb375 ∧ k_ ≠ gb376 ∧ k_ ≠ gb393 ∧ k_ ≠ gb394) (.slice Ao81 t383.length co81) t383) := ⟨(by rw [hw]; exact (by (with_reducible repeat (first | apply Kd.V_alloc | apply Kd.V_drewN | apply Kd.V_drew)); exact Kd.V_mono (Kd.V_far (p := ⟨gb393, 3, none⟩) (Kd.V_far (p := ⟨gb393, 2, none⟩) (Kd.V_far (p := ⟨gb393, 1, none⟩) (Kd.V_far (p := ⟨gb393, 0, none⟩) (Kd.V_mono HO385.out (fun k_ hk => (⟨hk, hk.1.2⟩ : _ ∧ k_ ≠ gb393))) (fun _ hk => hk.2) (.int .i64 t381)) (fun _ hk => hk.2) (.int .i64 t382)) (fun _ hk => hk.2) (.slice Ao81 t383.length co81)) (fun _ hk => hk.2) (.slice Ao82 t386.length co82)) (fun _ hk => ⟨hk.1.1.1.1, ⟨hk.1.1.1.2.1, ⟨hk.1.1.1.2.2, ⟨hk.1.1.2, hk.1.2⟩⟩⟩⟩)))⟩; replace HO388 : Aside0 (Kd.V k54 54 w83 w.heap.size (fun k_ => k_ ≠ gb374 ∧ k_ ≠ gb375 ∧ k_ ≠ gb376 ∧ k_ ≠ gb393 ∧ k_ ≠ gb394) (.slice Ao82 t386.length co82) t386) := ⟨(by rw [hw]; exact (by (with_reducible repeat (first | apply Kd.V_alloc | apply Kd.V_drewN | apply Kd.V_drew)); exact Kd.V_mono (Kd.V_far (p := ⟨gb393, 3, none⟩) (Kd.V_far (p := ⟨gb393, 2, none⟩) (Kd.V_far (p := ⟨gb393, 1, none⟩) (Kd.V_far (p := ⟨gb393, 0, none⟩) (Kd.V_mono HO388.out (fun k_ hk => (⟨hk, hk.1.2⟩ : _ ∧ k_ ≠ gb393))) (fun _ hk => hk.2) (.int .i64 t381)) (fun _ hk => hk.2) (.int .i64 t382)) (fun _ hk => hk.2) (.slice Ao81 t383.length co81)) (fun _ hk => hk.2) (.slice Ao82 t386.length co82)) (fun _ hk => ⟨hk.1.1.1.1, ⟨hk.1.1.1.2.1, ⟨hk.1.1.1.2.2, ⟨hk.1.1.2, hk.1.2⟩⟩⟩⟩)))⟩; replace BK374 : Aside0 (w83.heap[gb374]? = some (.cells #[.int .i64 a0_0, .int .i64 a0_1, .int .i64 a0_2, .int .i64 a0_3] 23 (0, 0))) := ⟨(by rw [hw]; exact (by (with_reducible repeat (first | refine blk_drewN ?_ _ | refine blk_drew ?_ | refine blk_alloc ?_ _)); refine blk_far ?_ NB374_393.out _; (with_reducible repeat (first | refine blk_drewN ?_ _ | refine blk_drew ?_ | refine blk_alloc ?_ _)); refine blk_far ?_ NB374_393.out _; (with_reducible repeat (first | refine blk_drewN ?_ _ | refine blk_drew ?_ | refine blk_alloc ?_ _)); refine blk_far ?_ NB374_393.out _; (with_reducible repeat (first | refine blk_drewN ?_ _ | refine blk_drew ?_ | refine blk_alloc ?_ _)); refine blk_far ?_ NB374_393.out _; (with_reducible repeat (first | refine blk_drewN ?_ _ | refine blk_drew ?_ | refine blk_alloc ?_ _)); exact BK374.out))⟩; replace BK375 : Aside0 (w83.heap[gb375]? = some (.cells #[.int .i64 a1_0, .int .i64 a1_1, .slice A1_2 l1_2.length c1_2, .slice A1_3 l1_3.length c1_3] 27 (0, 0))) := ⟨(by rw [hw]; exact (by (with_reducible repeat (first | refine blk_drewN ?_ _ | refine blk_drew ?_ | refine blk_alloc ?_ _)); refine blk_far ?_ NB375_393.out _; (with_reducible repeat (first | refine blk_drewN ?_ _ | refine blk_drew ?_ | refine blk_alloc ?_ _)); refine blk_far ?_ NB375_393.out _; (with_reducible repeat (first | refine blk_drewN ?_ _ | refine blk_drew ?_ | refine blk_alloc ?_ _)); refine blk_far ?_ NB375_393.out _; (with_reducible repeat (first | refine blk_drewN ?_ _ | refine blk_drew ?_ | refine blk_alloc ?_ _)); refine blk_far ?_ NB375_393.out _; (with_reducible repeat (first | refine blk_drewN ?_ _ | refine blk_drew ?_ | refine blk_alloc ?_ _)); exact BK375.out))⟩; replace BK376 : Aside0 (w83.heap[gb376]? = some (.cells #[.int .i64 a2_0, .int .i64 a2_1] 28 (0, 0))) := ⟨(by rw [hw]; exact (by (with_reducible repeat (first | refine blk_drewN ?_ _ | refine blk_drew ?_ | refine blk_alloc ?_ _)); refine blk_far ?_ NB376_393.out _; (with_reducible repeat (first | refine blk_drewN ?_ _ | refine blk_drew ?_ | refine blk_alloc ?_ _)); refine blk_far ?_ NB376_393.out _; (with_reducible repeat (first | refine blk_drewN ?_ _ | refine blk_drew ?_ | refine blk_alloc ?_ _)); refine blk_far ?_ NB376_393.out _; (with_reducible repeat (first | refine blk_drewN ?_ _ | refine blk_drew ?_ | refine blk_alloc ?_ _)); refine blk_far ?_ NB376_393.out _; (with_reducible repeat (first | refine blk_drewN ?_ _ | refine blk_drew ?_ | refine blk_alloc ?_ _)); exact BK376.out))⟩; replace BK393 : Aside0 (w83.heap[gb393]? = some (.cells #[.int .i64 t381, .int .i64 t382, .slice Ao81 t383.length co81, .slice Ao82 t386.length co82] 27 (0, 0))) := ⟨(by rw [hw]; exact (by (with_reducible repeat (first | refine blk_drewN ?_ _ | refine blk_drew ?_ | refine blk_alloc ?_ _)); refine blk_put (cs := #[.int .i64 t381, .int .i64 t382, .slice Ao81 t383.length co81, .slice none 0 0]) ?_ 3 _ rfl; (with_reducible repeat (first | refine blk_drewN ?_ _ | refine blk_drew ?_ | refine blk_alloc ?_ _)); refine blk_put (cs := #[.int .i64 t381, .int .i64 t382, .slice none 0 0, .slice none 0 0]) ?_ 2 _ rfl; (with_reducible repeat (first | refine blk_drewN ?_ _ | refine blk_drew ?_ | refine blk_alloc ?_ _)); refine blk_put (cs := #[.int .i64 t381, .int .i64 0, .slice none 0 0, .slice none 0 0]) ?_ 1 _ rfl; (with_reducible repeat (first | refine blk_drewN ?_ _ | refine blk_drew ?_ | refine blk_alloc ?_ _)); refine blk_put (cs := #[.int .i64 0, .int .i64 0, .slice none 0 0, .slice none 0 0]) ?_ 0 _ rfl; (with_reducible repeat (first | refine blk_drewN ?_ _ | refine blk_drew ?_ | refine blk_alloc ?_ _)); exact BK393.out))⟩; replace BK394 : Aside0 (w83.heap[gb394]? = some (.cells #[.bool false, .int .i64 0, .int .i64 0, .int .i64 0] 32 (0, 0))) := ⟨(by rw [hw]; exact (by (with_reducible repeat (first | refine blk_drewN ?_ _ | refine blk_drew ?_ | refine blk_alloc ?_ _)); refine blk_far ?_ NB394_393.out _; (with_reducible repeat (first | refine blk_drewN ?_ _ | refine blk_drew ?_ | refine blk_alloc ?_ _)); refine blk_far ?_ NB394_393.out _; (with_reducible repeat (first | refine blk_drewN ?_ _ | refine blk_drew ?_ | refine blk_alloc ?_ _)); refine blk_far ?_ NB394_393.out _; (with_reducible repeat (first | refine blk_drewN ?_ _ | refine blk_drew ?_ | refine blk_alloc ?_ _)); refine blk_far ?_ NB394_393.out _; (with_reducible repeat (first | refine blk_drewN ?_ _ | refine blk_drew ?_ | refine blk_alloc ?_ _)); exact BK394.out))⟩; replace HB : Aside0 (Below w.heap.size w w83) := ⟨(by rw [hw]; exact (bl HB))⟩; clear hw; have hnb84 := NB394_374.out; have hnc84 := NB374_394.out; have hnb85 := NB394_375.out; have hnc85 := NB375_394.out; have hnb86 := NB394_376.out; have hnc86 := NB376_394.out; obtain ⟨hcz87_0, hcz87_1, hcz87_2, hcz87_3⟩ := ce4 BK394; obtain ⟨hfz87_0, hfz87_1, hfz87_2, hfz87_3⟩ := fr4 BK394) | ((with_reducible refine gate_store (t := 32) (p := 10) rfl ?_); refine store_event (t := 32) (p := 10) (v := ?vo_w88) (w1 := ((((w83.setCell ⟨gb394, 0, none⟩ (.bool t389)).setCell ⟨gb394, 1, none⟩ (.int .i64 t390)).setCell ⟨gb394, 2, none⟩ (.int .i64 t391)).setCell ⟨gb394, 3, none⟩ (.int .i64 t392))) ?hg ?ho ?hn ?hr ?_; (case ho => rfl); (case hg => rfl); (case hn => rfl); (case hr => first | (go_simp; done) | (go_simp; rfl)); intro w88 hw; replace HO385 : Aside0 (Kd.V (Kd.int .i64) 3 w88 w.heap.size (fun k_ => k_ ≠ gb374 ∧ k_ ≠ gb375 ∧ k_ ≠ gb376 ∧ k_ ≠ gb393 ∧ k_ ≠ gb394) (.slice Ao81 t383.length co81) t383) := ⟨(by rw [hw]; exact (by (with_reducible repeat (first | apply Kd.V_alloc | apply Kd.V_drewN | apply Kd.V_drew)); exact Kd.V_mono (Kd.V_far (p := ⟨gb394, 3, none⟩) (Kd.V_far (p := ⟨gb394, 2, none⟩) (Kd.V_far (p := ⟨gb394, 1, none⟩) (Kd.V_far (p := ⟨gb394, 0, none⟩) (Kd.V_mono HO385.out (fun k_ hk => (⟨hk, hk.2.2.2.2⟩ : _ ∧ k_ ≠ gb394))) (fun _ hk => hk.2) (.bool t389)) (fun _ hk => hk.2) (.int .i64 t390)) (fun _ hk => hk.2) (.int .i64 t391)) (fun _ hk => hk.2) (.int .i64 t392)) (fun _ hk => ⟨hk.1.1, ⟨hk.1.2.1, ⟨hk.1.2.2.1, ⟨hk.1.2.2.2.1, hk.1.2.2.2.2⟩⟩⟩⟩)))⟩; replace HO388 : Aside0 (Kd.V k54 54 w88 w.heap.size (fun k_ => k_ ≠ gb374 ∧ k_ ≠ gb375 ∧ k_ ≠ gb376 ∧ k_ ≠ gb393 ∧ k_ ≠ gb394) (.slice Ao82 t386.length co82) t386) := ⟨(by rw [hw]; exact (by (with_reducible repeat (first | apply Kd.V_alloc | apply Kd.V_drewN | apply Kd.V_drew)); exact Kd.V_mono (Kd.V_far (p := ⟨gb394, 3, none⟩) (Kd.V_far (p := ⟨gb394, 2, none⟩) (Kd.V_far (p := ⟨gb394, 1, none⟩) (Kd.V_far (p := ⟨gb394, 0, none⟩) (Kd.V_mono HO388.out (fun k_ hk => (⟨hk, hk.2.2.2.2⟩ : _ ∧ k_ ≠ gb394))) (fun _ hk => hk.2) (.bool t389)) (fun _ hk => hk.2) (.int .i64 t390)) (fun _ hk => hk.2) (.int .i64 t391)) (fun _ hk => hk.2) (.int .i64 t392)) (fun _ hk => ⟨hk.1.1, ⟨hk.1.2.1, ⟨hk.1.2.2.1, ⟨hk.1.2.2.2.1, hk.1.2.2.2.2⟩⟩⟩⟩)))⟩; replace BK374 : Aside0 (w88.heap[gb374]? = some (.cells #[.int .i64 a0_0, .int .i64 a0_1, .int .i64 a0_2, .int .i64 a0_3] 23 (0, 0))) := ⟨(by rw [hw]; exact (by (with_reducible repeat (first | refine blk_drewN ?_ _ | refine blk_drew ?_ | refine blk_alloc ?_ _)); refine blk_far ?_ NB374_394.out _; (with_reducible repeat (first | refine blk_drewN ?_ _ | refine blk_drew ?_ | refine blk_alloc ?_ _)); refine blk_far ?_ NB374_394.out _; (with_reducible repeat (first | refine blk_drewN ?_ _ | refine blk_drew ?_ | refine blk_alloc ?_ _)); refine blk_far ?_ NB374_394.out _; (with_reducible repeat (first | refine blk_drewN ?_ _ | refine blk_drew ?_ | refine blk_alloc ?_ _)); refine blk_far ?_ NB374_394.out _; (with_reducible repeat (first | refine blk_drewN ?_ _ | refine blk_drew ?_ | refine blk_alloc ?_ _)); exact BK374.out))⟩; replace BK375 : Aside0 (w88.heap[gb375]? = some (.cells #[.int .i64 a1_0, .int .i64 a1_1, .slice A1_2 l1_2.length c1_2, .slice A1_3 l1_3.length c1_3] 27 (0, 0))) := ⟨(by rw [hw]; exact (by (with_reducible repeat (first | refine blk_drewN ?_ _ | refine blk_drew ?_ | refine blk_alloc ?_ _)); refine blk_far ?_ NB375_394.out _; (with_reducible repeat (first | refine blk_drewN ?_ _ | refine blk_drew ?_ | refine blk_alloc ?_ _)); refine blk_far ?_ NB375_394.out _; (with_reducible repeat (first | refine blk_drewN ?_ _ | refine blk_drew ?_ | refine blk_alloc ?_ _)); refine blk_far ?_ NB375_394.out _; (with_reducible repeat (first | refine blk_drewN ?_ _ | refine blk_drew ?_ | refine blk_alloc ?_ _)); refine blk_far ?_ NB375_394.out _; (with_reducible repeat (first | refine blk_drewN ?_ _ | refine blk_drew ?_ | refine blk_alloc ?_ _)); exact BK375.out))⟩; replace BK376 : Aside0 (w88.heap[gb376]? = some (.cells #[.int .i64 a2_0, .int .i64 a2_1] 28 (0, 0))) := ⟨(by rw [hw]; exact (by (with_reducible repeat (first | refine blk_drewN ?_ _ | refine blk_drew ?_ | refine blk_alloc ?_ _)); refine blk_far ?_ NB376_394.out _; (with_reducible repeat (first | refine blk_drewN ?_ _ | refine blk_drew ?_ | refine blk_alloc ?_ _)); refine blk_far ?_ NB376_394.out _; (with_reducible repeat (first | refine blk_drewN ?_ _ | refine blk_drew ?_ | refine blk_alloc ?_ _)); refine blk_far ?_ NB376_394.out _; (with_reducible repeat (first | refine blk_drewN ?_ _ | refine blk_drew ?_ | refine blk_alloc ?_ _)); refine blk_far ?_ NB376_394.out _; (with_reducible repeat (first | refine blk_drewN ?_ _ | refine blk_drew ?_ | refine blk_alloc ?_ _)); exact BK376.out))⟩; replace BK393 : Aside0 (w88.heap[gb393]? = some (.cells #[.int .i64 t381, .int .i64 t382, .slice Ao81 t383.length co81, .slice Ao82 t386.length co82] 27 (0, 0))) := ⟨(by rw [hw]; exact (by (with_reducible repeat (first | refine blk_drewN ?_ _ | refine blk_drew ?_ | refine blk_alloc ?_ _)); refine blk_far ?_ NB393_394.out _; (with_reducible repeat (first | refine blk_drewN ?_ _ | refine blk_drew ?_ | refine blk_alloc ?_ _)); refine blk_far ?_ NB393_394.out _; (with_reducible repeat (first | refine blk_drewN ?_ _ | refine blk_drew ?_ | refine blk_alloc ?_ _)); refine blk_far ?_ NB393_394.out _; (with_reducible repeat (first | refine blk_drewN ?_ _ | refine blk_drew ?_ | refine blk_alloc ?_ _)); refine blk_far ?_ NB393_394.out _; (with_reducible repeat (first | refine blk_drewN ?_ _ | refine blk_drew ?_ | refine blk_alloc ?_ _)); exact BK393.out))⟩; replace BK394 : Aside0 (w88.heap[gb394]? = some (.cells #[.bool t389, .int .i64 t390, .int .i64 t391, .int .i64 t392] 32 (0, 0))) := ⟨(by rw [hw]; exact (by (with_reducible repeat (first | refine blk_drewN ?_ _ | refine blk_drew ?_ | refine blk_alloc ?_ _)); refine blk_put (cs := #[.bool t389, .int .i64 t390, .int .i64 t391, .int .i64 0]) ?_ 3 _ rfl; (with_reducible repeat (first | refine blk_drewN ?_ _ | refine blk_drew ?_ | refine blk_alloc ?_ _)); refine blk_put (cs := #[.bool t389, .int .i64 t390, .int .i64 0, .int .i64 0]) ?_ 2 _ rfl; (with_reducible repeat (first | refine blk_drewN ?_ _ | refine blk_drew ?_ | refine blk_alloc ?_ _)); refine blk_put (cs := #[.bool t389, .int .i64 0, .int .i64 0, .int .i64 0]) ?_ 1 _ rfl; (with_reducible repeat (first | refine blk_drewN ?_ _ | refine blk_drew ?_ | refine blk_alloc ?_ _)); refine blk_put (cs := #[.bool false, .int .i64 0, .int .i64 0, .int .i64 0]) ?_ 0 _ rfl; (with_reducible repeat (first | refine blk_drewN ?_ _ | refine blk_drew ?_ | refine blk_alloc ?_ _)); exact BK394.out))⟩; replace HB : Aside0 (Below w.heap.size w w88) := ⟨(by rw [hw]; exact (bl HB))⟩; clear hw))
    (try simp only [Act.put, List.setIfInBounds_toArray, List.set_cons_zero, List.set_cons_succ])
    go_cut [87] (fun v87 wc => ∃ (kq : Nat) (x87_66 : Bool), v87 = .bool x87_66 ∧ Aside0 (sandglasslaw12_RingMay.j1 kq a2_1 x87_66 a0_0 a0_1 a0_2 a0_3 t381 t382 t383 t386 t389 t390 t391 t392 = some r) ∧ Aside0 (kq ≤ kj3) ∧ Aside0 (Kd.V (Kd.int .i64) 3 wc w.heap.size (fun k_ => k_ ≠ gb374 ∧ k_ ≠ gb375 ∧ k_ ≠ gb376 ∧ k_ ≠ gb393 ∧ k_ ≠ gb394) (.slice Ao81 t383.length co81) t383) ∧ Aside0 (Kd.V k54 54 wc w.heap.size (fun k_ => k_ ≠ gb374 ∧ k_ ≠ gb375 ∧ k_ ≠ gb376 ∧ k_ ≠ gb393 ∧ k_ ≠ gb394) (.slice Ao82 t386.length co82) t386) ∧ Aside0 (wc.heap[gb374]? = some (.cells #[.int .i64 a0_0, .int .i64 a0_1, .int .i64 a0_2, .int .i64 a0_3] 23 (0, 0))) ∧ Aside0 (wc.heap[gb375]? = some (.cells #[.int .i64 a1_0, .int .i64 a1_1, (.slice A1_2 l1_2.length c1_2), (.slice A1_3 l1_3.length c1_3)] 27 (0, 0))) ∧ Aside0 (wc.heap[gb376]? = some (.cells #[.int .i64 a2_0, .int .i64 a2_1] 28 (0, 0))) ∧ Aside0 (wc.heap[gb393]? = some (.cells #[.int .i64 t381, .int .i64 t382, (.slice Ao81 t383.length co81), (.slice Ao82 t386.length co82)] 27 (0, 0))) ∧ Aside0 (wc.heap[gb394]? = some (.cells #[.bool t389, .int .i64 t390, .int .i64 t391, .int .i64 t392] 32 (0, 0))) ∧ Aside0 (Below w.heap.size w wc))
    case first =>
     as_aux_lemma =>
     have H := HC67.out
     clear HC67
     replace H := Option.bind_eq_some_iff.mp H
     obtain ⟨t395, A890, H⟩ := H
     have A89 := Aside0.mk A890
     clear A890
     by_cases c90 : t395 = true
     ·subst c90
      rw [if_pos rfl] at H
      obtain ⟨ji91, hji91⟩ : ∃ j_ : Int, (mx a2_0 a1_0) = j_ := ⟨_, rfl⟩
      replace H : (if t381 = (ji91) then ((ring_Total.f kj3 a0_0 a0_1 a0_2 a0_3 t381 t382 t383 t386 t381).bind fun t396 => (if t390 = (wrap64 (a0_1 - t396)) then (sandglasslaw12_RingMay.j1 kj3 a2_1 (decide (t390 < 0)) a0_0 a0_1 a0_2 a0_3 t381 t382 t383 t386 t389 t390 t391 t392) else (sandglasslaw12_RingMay.j1 kj3 a2_1 true a0_0 a0_1 a0_2 a0_3 t381 t382 t383 t386 t389 t390 t391 t392))) else (sandglasslaw12_RingMay.j1 kj3 a2_1 true a0_0 a0_1 a0_2 a0_3 t381 t382 t383 t386 t389 t390 t391 t392)) = some r := by first | (rw [hji91] at H; exact H) | (simp only [hji91] at H ⊢; exact H)
      (try rw [hji91] at A89)
      have hji91_ : (if a2_0 < a1_0 then a1_0 else a2_0) = ji91 := hji91
      by_cases c92 : t381 = (ji91)
      ·rw [if_pos c92] at H
       have c92b0 : (t381 == (ji91)) = true := beq_iff_eq.mpr c92
       have c92b1 : (t381 != (ji91)) = false := bne_eq_false_iff_eq.mpr c92
       clear c92
       (first | rw [c92b0] | (simp only [i64_w, i32_w]; rw [c92b0]) | skip)
       replace H := Option.bind_eq_some_iff.mp H
       obtain ⟨t396, A930, H⟩ := H
       have A93 := Aside0.mk A930
       clear A930
       by_cases c94 : t390 = (wrap64 (a0_1 - t396))
       ·rw [if_pos c94] at H
        have c94b0 : (t390 == (wrap64 (a0_1 - t396))) = true := beq_iff_eq.mpr c94
        have c94b1 : (t390 != (wrap64 (a0_1 - t396))) = false := bne_eq_false_iff_eq.mpr c94
        clear c94
        have H' := Aside0.mk H
        clear H
        try go_wp2
        replace HO385 := Aside0.mk (Kd.V_drew HO385.out)
        replace HO388 := Aside0.mk (Kd.V_drew HO388.out)
        replace BK374 := Aside0.mk (blk_drew BK374.out)
        replace BK375 := Aside0.mk (blk_drew BK375.out)
        replace BK376 := Aside0.mk (blk_drew BK376.out)
        replace BK393 := Aside0.mk (blk_drew BK393.out)
        replace BK394 := Aside0.mk (blk_drew BK394.out)
        replace HB := Aside0.mk (below_drew1 HB.out)
        refine start_ (n := 31) (S := fun w' => w'.cell? ⟨gb374, 0, none⟩ = some (.int .i64 a0_0) ∧ w'.cell? ⟨gb374, 1, none⟩ = some (.int .i64 a0_1) ∧ w'.cell? ⟨gb374, 2, none⟩ = some (.int .i64 a0_2) ∧ w'.cell? ⟨gb374, 3, none⟩ = some (.int .i64 a0_3) ∧ w'.cell? ⟨gb393, 0, none⟩ = some (.int .i64 t381) ∧ w'.cell? ⟨gb393, 1, none⟩ = some (.int .i64 t382) ∧ w'.cell? ⟨gb393, 2, none⟩ = some (.slice Ao81 t383.length co81) ∧ w'.cell? ⟨gb393, 3, none⟩ = some (.slice Ao82 t386.length co82) ∧ w'.cell? ⟨gb375, 0, none⟩ = some (.int .i64 a1_0) ∧ w'.cell? ⟨gb375, 1, none⟩ = some (.int .i64 a1_1) ∧ w'.cell? ⟨gb375, 2, none⟩ = some (.slice A1_2 l1_2.length c1_2) ∧ w'.cell? ⟨gb375, 3, none⟩ = some (.slice A1_3 l1_3.length c1_3) ∧ w'.cell? ⟨gb394, 0, none⟩ = some (.bool t389) ∧ w'.cell? ⟨gb394, 1, none⟩ = some (.int .i64 t390) ∧ w'.cell? ⟨gb394, 2, none⟩ = some (.int .i64 t391) ∧ w'.cell? ⟨gb394, 3, none⟩ = some (.int .i64 t392)) (ds := []) #[false, false, false, false, false, false, false, false, false, false, false, false, false, false, false, false, false, false, false, false, false, false, false, false, false, false, false, false, false, false, false] (by kernel_rfl) rfl rfl ⟨(blk_cell BK374.out 0).trans rfl, (blk_cell BK374.out 1).trans rfl, (blk_cell BK374.out 2).trans rfl, (blk_cell BK374.out 3).trans rfl, (blk_cell BK393.out 0).trans rfl, (blk_cell BK393.out 1).trans rfl, (blk_cell BK393.out 2).trans rfl, (blk_cell BK393.out 3).trans rfl, (blk_cell BK375.out 0).trans rfl, (blk_cell BK375.out 1).trans rfl, (blk_cell BK375.out 2).trans rfl, (blk_cell BK375.out 3).trans rfl, (blk_cell BK394.out 0).trans rfl, (blk_cell BK394.out 1).trans rfl, (blk_cell BK394.out 2).trans rfl, (blk_cell BK394.out 3).trans rfl⟩ (fun hHeld => ?_); refine with_tabW sandglasslaw12_RingMay.tab5 sandglasslaw12_RingMay.bits5 (fun HT_ HW_ => ?_)
        generalize w88.drew = w95 at HO385 HO388 BK374 BK375 BK376 BK393 BK394 HB hHeld ⊢
        refine takeA 0 57 HT_ HW_ hHeld ?_
        refine takeA 1 58 HT_ HW_ hHeld ?_
        refine one_ (i := 2) (N := some 59) #[true, true, true, false, false, false, false, false, false, false, false, false, false, false, false, false, false, false, false, false, false, false, false, false, false, false, false, false, false, false, false] rfl rfl (one_of HT_.out (by kernel_rfl)) (by decide) (fun K hK => ?_)
        refine goes_ Try.func13 (by kernel_rfl) rfl #[.agg #[.int .i64 a0_0, .int .i64 a0_1, .int .i64 a0_2, .int .i64 a0_3], .agg #[.int .i64 t381, .int .i64 t382, .slice Ao81 t383.length co81, .slice Ao82 t386.length co82]] (by rfl) rfl rfl (by (try simp only [List.map_toArray, List.map_cons, List.map_nil]); first | done | rfl | (simp only [List.length_drop, List.length_take]; rfl)) ?_
        with_reducible refine (ring_May.calls kj3 a0_0 a0_1 a0_2 a0_3 t381 t382 _ _ t383 _ _ t386 true _ ?side1 ?side2 ?side3 ?side4 A89.out).mono ?_
        (case side1 => repeat (first | exact (Kd.V_reads' HO385.out).2.2 | (with_reducible refine Kd.C_alloc ?_ _) | (with_reducible refine Kd.C_drewN ?_ _) | (with_reducible refine Kd.C_drew ?_)))
        (case side2 => exact (Kd.V_reads' HO385.out).2.1)
        (case side3 => repeat (first | exact (Kd.V_reads' HO388.out).2.2 | (with_reducible refine Kd.C_alloc ?_ _) | (with_reducible refine Kd.C_drewN ?_ _) | (with_reducible refine Kd.C_drew ?_)))
        (case side4 => exact (Kd.V_reads' HO388.out).2.1)
        rintro e w96 ⟨rfl, hb⟩
        refine ⟨_, rfl, ?_⟩
        replace HO385 := vb HO385 hb
        replace HO388 := vb HO388 hb
        replace BK374 := Aside0.mk (blk_below (bo BK374) hb)
        replace BK375 := Aside0.mk (blk_below (bo BK375) hb)
        replace BK376 := Aside0.mk (blk_below (bo BK376) hb)
        replace BK393 := Aside0.mk (blk_below (bo BK393) hb)
        replace BK394 := Aside0.mk (blk_below (bo BK394) hb)
        replace HB := Aside0.mk (below_step (bl HB) hb)
        (try clear hb)
        (try clear hb2)
        (try clear hk)
        (try clear hi)
        refine hK.out _ _ ⟨(blk_cell BK374.out 0).trans rfl, (blk_cell BK374.out 1).trans rfl, (blk_cell BK374.out 2).trans rfl, (blk_cell BK374.out 3).trans rfl, (blk_cell BK393.out 0).trans rfl, (blk_cell BK393.out 1).trans rfl, (blk_cell BK393.out 2).trans rfl, (blk_cell BK393.out 3).trans rfl, (blk_cell BK375.out 0).trans rfl, (blk_cell BK375.out 1).trans rfl, (blk_cell BK375.out 2).trans rfl, (blk_cell BK375.out 3).trans rfl, (blk_cell BK394.out 0).trans rfl, (blk_cell BK394.out 1).trans rfl, (blk_cell BK394.out 2).trans rfl, (blk_cell BK394.out 3).trans rfl⟩ (fun hHeld => ?_)
        clear hK K
        refine norm_ (a' := ?_) ?_ ?_
        rotate_left
        ·show Act.put _ (some 59) _ = _
         simp only [Act.put, List.setIfInBounds_toArray, List.set_cons_zero, List.set_cons_succ, i64_w, i32_w]
         rfl
        refine pureA 3 60 HT_ ?_
        refine pureA 4 61 HT_ ?_
        refine pureA 5 62 HT_ ?_
        refine pureA 7 64 HT_ ?_
        refine pureA 8 65 HT_ ?_
        refine takeA 6 63 HT_ HW_ hHeld ?_
        refine takeA 9 66 HT_ HW_ hHeld ?_
        refine pureA 10 67 HT_ ?_
        refine pureA 11 68 HT_ ?_
        refine pureA 12 69 HT_ ?_
        refine pureA 13 70 HT_ ?_
        refine pureA 14 71 HT_ ?_
        refine pureA 16 73 HT_ ?_
        refine pureA 20 77 HT_ ?_
        refine takeA 15 72 HT_ HW_ hHeld ?_
        refine takeA 17 74 HT_ HW_ hHeld ?_
        refine takeA 18 75 HT_ HW_ hHeld ?_
        refine takeA 19 76 HT_ HW_ hHeld ?_
        refine takeA 21 78 HT_ HW_ hHeld ?_
        refine one_ (i := 22) (N := some 79) #[true, true, true, true, true, true, true, true, true, true, true, true, true, true, true, true, true, true, true, true, true, true, true, false, false, false, false, false, false, false, false] rfl rfl (one_of HT_.out (by kernel_rfl)) (by decide) (fun K hK => ?_)
        refine goes_ Try.func15 (by kernel_rfl) rfl #[.agg #[.int .i64 a0_0, .int .i64 a0_1, .int .i64 a0_2, .int .i64 a0_3], .agg #[.int .i64 t381, .int .i64 t382, .slice Ao81 t383.length co81, .slice Ao82 t386.length co82], .int .i64 t381] (by rfl) rfl rfl (by (try simp only [List.map_toArray, List.map_cons, List.map_nil]); first | done | rfl | (simp only [List.length_drop, List.length_take]; rfl)) ?_
        with_reducible refine (ring_Total.calls kj3 a0_0 a0_1 a0_2 a0_3 t381 t382 _ _ t383 _ _ t386 t381 t396 _ ?side1 ?side2 ?side3 ?side4 A93.out).mono ?_
        (case side1 => repeat (first | exact (Kd.V_reads' HO385.out).2.2 | (with_reducible refine Kd.C_alloc ?_ _) | (with_reducible refine Kd.C_drewN ?_ _) | (with_reducible refine Kd.C_drew ?_)))
        (case side2 => exact (Kd.V_reads' HO385.out).2.1)
        (case side3 => repeat (first | exact (Kd.V_reads' HO388.out).2.2 | (with_reducible refine Kd.C_alloc ?_ _) | (with_reducible refine Kd.C_drewN ?_ _) | (with_reducible refine Kd.C_drew ?_)))
        (case side4 => exact (Kd.V_reads' HO388.out).2.1)
        rintro e w97 ⟨rfl, hb⟩
        refine ⟨_, rfl, ?_⟩
        replace HO385 := vb HO385 hb
        replace HO388 := vb HO388 hb
        replace BK374 := Aside0.mk (blk_below (bo BK374) hb)
        replace BK375 := Aside0.mk (blk_below (bo BK375) hb)
        replace BK376 := Aside0.mk (blk_below (bo BK376) hb)
        replace BK393 := Aside0.mk (blk_below (bo BK393) hb)
        replace BK394 := Aside0.mk (blk_below (bo BK394) hb)
        replace HB := Aside0.mk (below_step (bl HB) hb)
        (try clear hb)
        (try clear hb2)
        (try clear hk)
        (try clear hi)
        refine hK.out _ _ ⟨(blk_cell BK374.out 0).trans rfl, (blk_cell BK374.out 1).trans rfl, (blk_cell BK374.out 2).trans rfl, (blk_cell BK374.out 3).trans rfl, (blk_cell BK393.out 0).trans rfl, (blk_cell BK393.out 1).trans rfl, (blk_cell BK393.out 2).trans rfl, (blk_cell BK393.out 3).trans rfl, (blk_cell BK375.out 0).trans rfl, (blk_cell BK375.out 1).trans rfl, (blk_cell BK375.out 2).trans rfl, (blk_cell BK375.out 3).trans rfl, (blk_cell BK394.out 0).trans rfl, (blk_cell BK394.out 1).trans rfl, (blk_cell BK394.out 2).trans rfl, (blk_cell BK394.out 3).trans rfl⟩ (fun hHeld => ?_)
        clear hK K
        refine norm_ (a' := ?_) ?_ ?_
        rotate_left
        ·show Act.put _ (some 79) _ = _
         simp only [Act.put, List.setIfInBounds_toArray, List.set_cons_zero, List.set_cons_succ, i64_w, i32_w]
         rfl
        refine pureA 23 80 HT_ ?_
        refine pureA 24 81 HT_ ?_
        refine pureA 25 82 HT_ ?_
        refine pureA 26 83 HT_ ?_
        refine pureA 27 84 HT_ ?_
        refine takeA 28 85 HT_ HW_ hHeld ?_
        refine pureA 29 86 HT_ ?_
        refine pureA 30 87 HT_ ?_
        refine done_ (done_of HT_.out (by kernel_rfl)) ?_
        try go_wp2
        go_meet
        case rel => exact ⟨_, (decide (t390 < 0)), (by first | (with_reducible rfl) | rfl | (simp; done) | (simp [*]; done)), H', ⟨by have := HJ3.out; first | omega | exact Nat.le_refl _⟩, ⟨by (with_reducible repeat (first | apply Kd.V_alloc | apply Kd.V_drewN | apply Kd.V_drew)); exact HO385.out⟩, ⟨by (with_reducible repeat (first | apply Kd.V_alloc | apply Kd.V_drewN | apply Kd.V_drew)); exact HO388.out⟩, ⟨bo BK374⟩, ⟨bo BK375⟩, ⟨bo BK376⟩, ⟨bo BK393⟩, ⟨bo BK394⟩, ⟨bl HB⟩⟩
       ·rw [if_neg c94] at H
        have c94b0 : (t390 == (wrap64 (a0_1 - t396))) = false := beq_eq_false_iff_ne.mpr c94
        have c94b1 : (t390 != (wrap64 (a0_1 - t396))) = true := bne_iff_ne.mpr c94
        have H' := Aside0.mk H
        clear H
        try go_wp2
        replace HO385 := Aside0.mk (Kd.V_drew HO385.out)
        replace HO388 := Aside0.mk (Kd.V_drew HO388.out)
        replace BK374 := Aside0.mk (blk_drew BK374.out)
        replace BK375 := Aside0.mk (blk_drew BK375.out)
        replace BK376 := Aside0.mk (blk_drew BK376.out)
        replace BK393 := Aside0.mk (blk_drew BK393.out)
        replace BK394 := Aside0.mk (blk_drew BK394.out)
        replace HB := Aside0.mk (below_drew1 HB.out)
        refine start_ (n := 31) (S := fun w' => w'.cell? ⟨gb374, 0, none⟩ = some (.int .i64 a0_0) ∧ w'.cell? ⟨gb374, 1, none⟩ = some (.int .i64 a0_1) ∧ w'.cell? ⟨gb374, 2, none⟩ = some (.int .i64 a0_2) ∧ w'.cell? ⟨gb374, 3, none⟩ = some (.int .i64 a0_3) ∧ w'.cell? ⟨gb393, 0, none⟩ = some (.int .i64 t381) ∧ w'.cell? ⟨gb393, 1, none⟩ = some (.int .i64 t382) ∧ w'.cell? ⟨gb393, 2, none⟩ = some (.slice Ao81 t383.length co81) ∧ w'.cell? ⟨gb393, 3, none⟩ = some (.slice Ao82 t386.length co82) ∧ w'.cell? ⟨gb375, 0, none⟩ = some (.int .i64 a1_0) ∧ w'.cell? ⟨gb375, 1, none⟩ = some (.int .i64 a1_1) ∧ w'.cell? ⟨gb375, 2, none⟩ = some (.slice A1_2 l1_2.length c1_2) ∧ w'.cell? ⟨gb375, 3, none⟩ = some (.slice A1_3 l1_3.length c1_3) ∧ w'.cell? ⟨gb394, 0, none⟩ = some (.bool t389) ∧ w'.cell? ⟨gb394, 1, none⟩ = some (.int .i64 t390) ∧ w'.cell? ⟨gb394, 2, none⟩ = some (.int .i64 t391) ∧ w'.cell? ⟨gb394, 3, none⟩ = some (.int .i64 t392)) (ds := []) #[false, false, false, false, false, false, false, false, false, false, false, false, false, false, false, false, false, false, false, false, false, false, false, false, false, false, false, false, false, false, false] (by kernel_rfl) rfl rfl ⟨(blk_cell BK374.out 0).trans rfl, (blk_cell BK374.out 1).trans rfl, (blk_cell BK374.out 2).trans rfl, (blk_cell BK374.out 3).trans rfl, (blk_cell BK393.out 0).trans rfl, (blk_cell BK393.out 1).trans rfl, (blk_cell BK393.out 2).trans rfl, (blk_cell BK393.out 3).trans rfl, (blk_cell BK375.out 0).trans rfl, (blk_cell BK375.out 1).trans rfl, (blk_cell BK375.out 2).trans rfl, (blk_cell BK375.out 3).trans rfl, (blk_cell BK394.out 0).trans rfl, (blk_cell BK394.out 1).trans rfl, (blk_cell BK394.out 2).trans rfl, (blk_cell BK394.out 3).trans rfl⟩ (fun hHeld => ?_); refine with_tabW sandglasslaw12_RingMay.tab5 sandglasslaw12_RingMay.bits5 (fun HT_ HW_ => ?_)
        generalize w88.drew = w98 at HO385 HO388 BK374 BK375 BK376 BK393 BK394 HB hHeld ⊢
        refine takeA 0 57 HT_ HW_ hHeld ?_
        refine takeA 1 58 HT_ HW_ hHeld ?_
        refine one_ (i := 2) (N := some 59) #[true, true, true, false, false, false, false, false, false, false, false, false, false, false, false, false, false, false, false, false, false, false, false, false, false, false, false, false, false, false, false] rfl rfl (one_of HT_.out (by kernel_rfl)) (by decide) (fun K hK => ?_)
        refine goes_ Try.func13 (by kernel_rfl) rfl #[.agg #[.int .i64 a0_0, .int .i64 a0_1, .int .i64 a0_2, .int .i64 a0_3], .agg #[.int .i64 t381, .int .i64 t382, .slice Ao81 t383.length co81, .slice Ao82 t386.length co82]] (by rfl) rfl rfl (by (try simp only [List.map_toArray, List.map_cons, List.map_nil]); first | done | rfl | (simp only [List.length_drop, List.length_take]; rfl)) ?_
        with_reducible refine (ring_May.calls kj3 a0_0 a0_1 a0_2 a0_3 t381 t382 _ _ t383 _ _ t386 true _ ?side1 ?side2 ?side3 ?side4 A89.out).mono ?_
        (case side1 => repeat (first | exact (Kd.V_reads' HO385.out).2.2 | (with_reducible refine Kd.C_alloc ?_ _) | (with_reducible refine Kd.C_drewN ?_ _) | (with_reducible refine Kd.C_drew ?_)))
        (case side2 => exact (Kd.V_reads' HO385.out).2.1)
        (case side3 => repeat (first | exact (Kd.V_reads' HO388.out).2.2 | (with_reducible refine Kd.C_alloc ?_ _) | (with_reducible refine Kd.C_drewN ?_ _) | (with_reducible refine Kd.C_drew ?_)))
        (case side4 => exact (Kd.V_reads' HO388.out).2.1)
        rintro e w99 ⟨rfl, hb⟩
        refine ⟨_, rfl, ?_⟩
        replace HO385 := vb HO385 hb
        replace HO388 := vb HO388 hb
        replace BK374 := Aside0.mk (blk_below (bo BK374) hb)
        replace BK375 := Aside0.mk (blk_below (bo BK375) hb)
        replace BK376 := Aside0.mk (blk_below (bo BK376) hb)
        replace BK393 := Aside0.mk (blk_below (bo BK393) hb)
        replace BK394 := Aside0.mk (blk_below (bo BK394) hb)
        replace HB := Aside0.mk (below_step (bl HB) hb)
        (try clear hb)
        (try clear hb2)
        (try clear hk)
        (try clear hi)
        refine hK.out _ _ ⟨(blk_cell BK374.out 0).trans rfl, (blk_cell BK374.out 1).trans rfl, (blk_cell BK374.out 2).trans rfl, (blk_cell BK374.out 3).trans rfl, (blk_cell BK393.out 0).trans rfl, (blk_cell BK393.out 1).trans rfl, (blk_cell BK393.out 2).trans rfl, (blk_cell BK393.out 3).trans rfl, (blk_cell BK375.out 0).trans rfl, (blk_cell BK375.out 1).trans rfl, (blk_cell BK375.out 2).trans rfl, (blk_cell BK375.out 3).trans rfl, (blk_cell BK394.out 0).trans rfl, (blk_cell BK394.out 1).trans rfl, (blk_cell BK394.out 2).trans rfl, (blk_cell BK394.out 3).trans rfl⟩ (fun hHeld => ?_)
        clear hK K
        refine norm_ (a' := ?_) ?_ ?_
        rotate_left
        ·show Act.put _ (some 59) _ = _
         simp only [Act.put, List.setIfInBounds_toArray, List.set_cons_zero, List.set_cons_succ, i64_w, i32_w]
         rfl
        refine pureA 3 60 HT_ ?_
        refine pureA 4 61 HT_ ?_
        refine pureA 5 62 HT_ ?_
        refine pureA 7 64 HT_ ?_
        refine pureA 8 65 HT_ ?_
        refine takeA 6 63 HT_ HW_ hHeld ?_
        refine takeA 9 66 HT_ HW_ hHeld ?_
        refine pureA 10 67 HT_ ?_
        refine pureA 11 68 HT_ ?_
        refine pureA 12 69 HT_ ?_
        refine pureA 13 70 HT_ ?_
        refine pureA 14 71 HT_ ?_
        refine pureA 16 73 HT_ ?_
        refine pureA 20 77 HT_ ?_
        refine takeA 15 72 HT_ HW_ hHeld ?_
        refine takeA 17 74 HT_ HW_ hHeld ?_
        refine takeA 18 75 HT_ HW_ hHeld ?_
        refine takeA 19 76 HT_ HW_ hHeld ?_
        refine takeA 21 78 HT_ HW_ hHeld ?_
        refine one_ (i := 22) (N := some 79) #[true, true, true, true, true, true, true, true, true, true, true, true, true, true, true, true, true, true, true, true, true, true, true, false, false, false, false, false, false, false, false] rfl rfl (one_of HT_.out (by kernel_rfl)) (by decide) (fun K hK => ?_)
        refine goes_ Try.func15 (by kernel_rfl) rfl #[.agg #[.int .i64 a0_0, .int .i64 a0_1, .int .i64 a0_2, .int .i64 a0_3], .agg #[.int .i64 t381, .int .i64 t382, .slice Ao81 t383.length co81, .slice Ao82 t386.length co82], .int .i64 t381] (by rfl) rfl rfl (by (try simp only [List.map_toArray, List.map_cons, List.map_nil]); first | done | rfl | (simp only [List.length_drop, List.length_take]; rfl)) ?_
        with_reducible refine (ring_Total.calls kj3 a0_0 a0_1 a0_2 a0_3 t381 t382 _ _ t383 _ _ t386 t381 t396 _ ?side1 ?side2 ?side3 ?side4 A93.out).mono ?_
        (case side1 => repeat (first | exact (Kd.V_reads' HO385.out).2.2 | (with_reducible refine Kd.C_alloc ?_ _) | (with_reducible refine Kd.C_drewN ?_ _) | (with_reducible refine Kd.C_drew ?_)))
        (case side2 => exact (Kd.V_reads' HO385.out).2.1)
        (case side3 => repeat (first | exact (Kd.V_reads' HO388.out).2.2 | (with_reducible refine Kd.C_alloc ?_ _) | (with_reducible refine Kd.C_drewN ?_ _) | (with_reducible refine Kd.C_drew ?_)))
        (case side4 => exact (Kd.V_reads' HO388.out).2.1)
        rintro e w100 ⟨rfl, hb⟩
        refine ⟨_, rfl, ?_⟩
        replace HO385 := vb HO385 hb
        replace HO388 := vb HO388 hb
        replace BK374 := Aside0.mk (blk_below (bo BK374) hb)
        replace BK375 := Aside0.mk (blk_below (bo BK375) hb)
        replace BK376 := Aside0.mk (blk_below (bo BK376) hb)
        replace BK393 := Aside0.mk (blk_below (bo BK393) hb)
        replace BK394 := Aside0.mk (blk_below (bo BK394) hb)
        replace HB := Aside0.mk (below_step (bl HB) hb)
        (try clear hb)
        (try clear hb2)
        (try clear hk)
        (try clear hi)
        refine hK.out _ _ ⟨(blk_cell BK374.out 0).trans rfl, (blk_cell BK374.out 1).trans rfl, (blk_cell BK374.out 2).trans rfl, (blk_cell BK374.out 3).trans rfl, (blk_cell BK393.out 0).trans rfl, (blk_cell BK393.out 1).trans rfl, (blk_cell BK393.out 2).trans rfl, (blk_cell BK393.out 3).trans rfl, (blk_cell BK375.out 0).trans rfl, (blk_cell BK375.out 1).trans rfl, (blk_cell BK375.out 2).trans rfl, (blk_cell BK375.out 3).trans rfl, (blk_cell BK394.out 0).trans rfl, (blk_cell BK394.out 1).trans rfl, (blk_cell BK394.out 2).trans rfl, (blk_cell BK394.out 3).trans rfl⟩ (fun hHeld => ?_)
        clear hK K
        refine norm_ (a' := ?_) ?_ ?_
        rotate_left
        ·show Act.put _ (some 79) _ = _
         simp only [Act.put, List.setIfInBounds_toArray, List.set_cons_zero, List.set_cons_succ, i64_w, i32_w]
         rfl
        refine pureA 23 80 HT_ ?_
        refine pureA 24 81 HT_ ?_
        refine pureA 25 82 HT_ ?_
        refine pureA 26 83 HT_ ?_
        refine pure_ (i := 27) (N := some 84) (v := undef) (a' := ?_) #[true, true, true, true, true, true, true, true, true, true, true, true, true, true, true, true, true, true, true, true, true, true, true, true, true, true, true, true, false, false, false] rfl rfl (any_of HT_.out (by kernel_rfl)) (fun _ _ _ h => h) (Or.inr ⟨by rfl, rfl⟩) ?_ ?_
        rotate_left
        ·simp only [Act.put, List.setIfInBounds_toArray, List.set_cons_zero, List.set_cons_succ, i64_w, i32_w]
         rfl
        refine pure_ (i := 28) (N := some 85) (v := undef) (a' := ?_) #[true, true, true, true, true, true, true, true, true, true, true, true, true, true, true, true, true, true, true, true, true, true, true, true, true, true, true, true, true, false, false] rfl rfl (any_of HT_.out (by kernel_rfl)) (fun _ _ _ h => h) (Or.inr ⟨by rfl, rfl⟩) ?_ ?_
        rotate_left
        ·simp only [Act.put, List.setIfInBounds_toArray, List.set_cons_zero, List.set_cons_succ, i64_w, i32_w]
         rfl
        refine pure_ (i := 29) (N := some 86) (v := undef) (a' := ?_) #[true, true, true, true, true, true, true, true, true, true, true, true, true, true, true, true, true, true, true, true, true, true, true, true, true, true, true, true, true, true, false] rfl rfl (any_of HT_.out (by kernel_rfl)) (fun _ _ _ h => h) (Or.inr ⟨by rfl, rfl⟩) ?_ ?_
        rotate_left
        ·simp only [Act.put, List.setIfInBounds_toArray, List.set_cons_zero, List.set_cons_succ, i64_w, i32_w]
         rfl
        refine pureA 30 87 HT_ ?_
        refine done_ (done_of HT_.out (by kernel_rfl)) ?_
        try go_wp2
        go_meet
        case rel => exact ⟨_, (true), (by first | (with_reducible rfl) | rfl | (simp; done) | (simp [*]; done)), H', ⟨by have := HJ3.out; first | omega | exact Nat.le_refl _⟩, ⟨by (with_reducible repeat (first | apply Kd.V_alloc | apply Kd.V_drewN | apply Kd.V_drew)); exact HO385.out⟩, ⟨by (with_reducible repeat (first | apply Kd.V_alloc | apply Kd.V_drewN | apply Kd.V_drew)); exact HO388.out⟩, ⟨bo BK374⟩, ⟨bo BK375⟩, ⟨bo BK376⟩, ⟨bo BK393⟩, ⟨bo BK394⟩, ⟨bl HB⟩⟩
      ·rw [if_neg c92] at H
       have c92b0 : (t381 == (ji91)) = false := beq_eq_false_iff_ne.mpr c92
       have c92b1 : (t381 != (ji91)) = true := bne_iff_ne.mpr c92
       (first | rw [c92b0] | (simp only [i64_w, i32_w]; rw [c92b0]) | skip)
       have H' := Aside0.mk H
       clear H
       try go_wp2
       replace HO385 := Aside0.mk (Kd.V_drew HO385.out)
       replace HO388 := Aside0.mk (Kd.V_drew HO388.out)
       replace BK374 := Aside0.mk (blk_drew BK374.out)
       replace BK375 := Aside0.mk (blk_drew BK375.out)
       replace BK376 := Aside0.mk (blk_drew BK376.out)
       replace BK393 := Aside0.mk (blk_drew BK393.out)
       replace BK394 := Aside0.mk (blk_drew BK394.out)
       replace HB := Aside0.mk (below_drew1 HB.out)
       refine start_ (n := 31) (S := fun w' => w'.cell? ⟨gb374, 0, none⟩ = some (.int .i64 a0_0) ∧ w'.cell? ⟨gb374, 1, none⟩ = some (.int .i64 a0_1) ∧ w'.cell? ⟨gb374, 2, none⟩ = some (.int .i64 a0_2) ∧ w'.cell? ⟨gb374, 3, none⟩ = some (.int .i64 a0_3) ∧ w'.cell? ⟨gb393, 0, none⟩ = some (.int .i64 t381) ∧ w'.cell? ⟨gb393, 1, none⟩ = some (.int .i64 t382) ∧ w'.cell? ⟨gb393, 2, none⟩ = some (.slice Ao81 t383.length co81) ∧ w'.cell? ⟨gb393, 3, none⟩ = some (.slice Ao82 t386.length co82) ∧ w'.cell? ⟨gb375, 0, none⟩ = some (.int .i64 a1_0) ∧ w'.cell? ⟨gb375, 1, none⟩ = some (.int .i64 a1_1) ∧ w'.cell? ⟨gb375, 2, none⟩ = some (.slice A1_2 l1_2.length c1_2) ∧ w'.cell? ⟨gb375, 3, none⟩ = some (.slice A1_3 l1_3.length c1_3)) (ds := []) #[false, false, false, false, false, false, false, false, false, false, false, false, false, false, false, false, false, false, false, false, false, false, false, false, false, false, false, false, false, false, false] (by kernel_rfl) rfl rfl ⟨(blk_cell BK374.out 0).trans rfl, (blk_cell BK374.out 1).trans rfl, (blk_cell BK374.out 2).trans rfl, (blk_cell BK374.out 3).trans rfl, (blk_cell BK393.out 0).trans rfl, (blk_cell BK393.out 1).trans rfl, (blk_cell BK393.out 2).trans rfl, (blk_cell BK393.out 3).trans rfl, (blk_cell BK375.out 0).trans rfl, (blk_cell BK375.out 1).trans rfl, (blk_cell BK375.out 2).trans rfl, (blk_cell BK375.out 3).trans rfl⟩ (fun hHeld => ?_); refine with_tabW sandglasslaw12_RingMay.tab5 sandglasslaw12_RingMay.bits5 (fun HT_ HW_ => ?_)
       generalize w88.drew = w101 at HO385 HO388 BK374 BK375 BK376 BK393 BK394 HB hHeld ⊢
       refine takeA 0 57 HT_ HW_ hHeld ?_
       refine takeA 1 58 HT_ HW_ hHeld ?_
       refine one_ (i := 2) (N := some 59) #[true, true, true, false, false, false, false, false, false, false, false, false, false, false, false, false, false, false, false, false, false, false, false, false, false, false, false, false, false, false, false] rfl rfl (one_of HT_.out (by kernel_rfl)) (by decide) (fun K hK => ?_)
       refine goes_ Try.func13 (by kernel_rfl) rfl #[.agg #[.int .i64 a0_0, .int .i64 a0_1, .int .i64 a0_2, .int .i64 a0_3], .agg #[.int .i64 t381, .int .i64 t382, .slice Ao81 t383.length co81, .slice Ao82 t386.length co82]] (by rfl) rfl rfl (by (try simp only [List.map_toArray, List.map_cons, List.map_nil]); first | done | rfl | (simp only [List.length_drop, List.length_take]; rfl)) ?_
       with_reducible refine (ring_May.calls kj3 a0_0 a0_1 a0_2 a0_3 t381 t382 _ _ t383 _ _ t386 true _ ?side1 ?side2 ?side3 ?side4 A89.out).mono ?_
       (case side1 => repeat (first | exact (Kd.V_reads' HO385.out).2.2 | (with_reducible refine Kd.C_alloc ?_ _) | (with_reducible refine Kd.C_drewN ?_ _) | (with_reducible refine Kd.C_drew ?_)))
       (case side2 => exact (Kd.V_reads' HO385.out).2.1)
       (case side3 => repeat (first | exact (Kd.V_reads' HO388.out).2.2 | (with_reducible refine Kd.C_alloc ?_ _) | (with_reducible refine Kd.C_drewN ?_ _) | (with_reducible refine Kd.C_drew ?_)))
       (case side4 => exact (Kd.V_reads' HO388.out).2.1)
       rintro e w102 ⟨rfl, hb⟩
       refine ⟨_, rfl, ?_⟩
       replace HO385 := vb HO385 hb
       replace HO388 := vb HO388 hb
       replace BK374 := Aside0.mk (blk_below (bo BK374) hb)
       replace BK375 := Aside0.mk (blk_below (bo BK375) hb)
       replace BK376 := Aside0.mk (blk_below (bo BK376) hb)
       replace BK393 := Aside0.mk (blk_below (bo BK393) hb)
       replace BK394 := Aside0.mk (blk_below (bo BK394) hb)
       replace HB := Aside0.mk (below_step (bl HB) hb)
       (try clear hb)
       (try clear hb2)
       (try clear hk)
       (try clear hi)
       refine hK.out _ _ ⟨(blk_cell BK374.out 0).trans rfl, (blk_cell BK374.out 1).trans rfl, (blk_cell BK374.out 2).trans rfl, (blk_cell BK374.out 3).trans rfl, (blk_cell BK393.out 0).trans rfl, (blk_cell BK393.out 1).trans rfl, (blk_cell BK393.out 2).trans rfl, (blk_cell BK393.out 3).trans rfl, (blk_cell BK375.out 0).trans rfl, (blk_cell BK375.out 1).trans rfl, (blk_cell BK375.out 2).trans rfl, (blk_cell BK375.out 3).trans rfl⟩ (fun hHeld => ?_)
       clear hK K
       refine norm_ (a' := ?_) ?_ ?_
       rotate_left
       ·show Act.put _ (some 59) _ = _
        simp only [Act.put, List.setIfInBounds_toArray, List.set_cons_zero, List.set_cons_succ, i64_w, i32_w]
        rfl
       refine pureA 3 60 HT_ ?_
       refine pureA 4 61 HT_ ?_
       refine pureA 5 62 HT_ ?_
       refine pureA 7 64 HT_ ?_
       refine pureA 8 65 HT_ ?_
       refine takeA 6 63 HT_ HW_ hHeld ?_
       refine takeA 9 66 HT_ HW_ hHeld ?_
       refine pureA 10 67 HT_ ?_
       refine pureA 11 68 HT_ ?_
       refine pureA 12 69 HT_ ?_
       refine pureA 13 70 HT_ ?_
       refine pure_ (i := 14) (N := some 71) (v := undef) (a' := ?_) #[true, true, true, true, true, true, true, true, true, true, true, true, true, true, true, false, false, false, false, false, false, false, false, false, false, false, false, false, false, false, false] rfl rfl (any_of HT_.out (by kernel_rfl)) (fun _ _ _ h => h) (Or.inr ⟨by rfl, rfl⟩) ?_ ?_
       rotate_left
       ·simp only [Act.put, List.setIfInBounds_toArray, List.set_cons_zero, List.set_cons_succ, i64_w, i32_w]
        rfl
       refine pure_ (i := 15) (N := some 72) (v := undef) (a' := ?_) #[true, true, true, true, true, true, true, true, true, true, true, true, true, true, true, true, false, false, false, false, false, false, false, false, false, false, false, false, false, false, false] rfl rfl (any_of HT_.out (by kernel_rfl)) (fun _ _ _ h => h) (Or.inr ⟨by rfl, rfl⟩) ?_ ?_
       rotate_left
       ·simp only [Act.put, List.setIfInBounds_toArray, List.set_cons_zero, List.set_cons_succ, i64_w, i32_w]
        rfl
       refine pure_ (i := 16) (N := some 73) (v := undef) (a' := ?_) #[true, true, true, true, true, true, true, true, true, true, true, true, true, true, true, true, true, false, false, false, false, false, false, false, false, false, false, false, false, false, false] rfl rfl (any_of HT_.out (by kernel_rfl)) (fun _ _ _ h => h) (Or.inr ⟨by rfl, rfl⟩) ?_ ?_
       rotate_left
       ·simp only [Act.put, List.setIfInBounds_toArray, List.set_cons_zero, List.set_cons_succ, i64_w, i32_w]
        rfl
       refine pure_ (i := 17) (N := some 74) (v := undef) (a' := ?_) #[true, true, true, true, true, true, true, true, true, true, true, true, true, true, true, true, true, true, false, false, false, false, false, false, false, false, false, false, false, false, false] rfl rfl (any_of HT_.out (by kernel_rfl)) (fun _ _ _ h => h) (Or.inr ⟨by rfl, rfl⟩) ?_ ?_
       rotate_left
       ·simp only [Act.put, List.setIfInBounds_toArray, List.set_cons_zero, List.set_cons_succ, i64_w, i32_w]
        rfl
       refine pure_ (i := 18) (N := some 75) (v := undef) (a' := ?_) #[true, true, true, true, true, true, true, true, true, true, true, true, true, true, true, true, true, true, true, false, false, false, false, false, false, false, false, false, false, false, false] rfl rfl (any_of HT_.out (by kernel_rfl)) (fun _ _ _ h => h) (Or.inr ⟨by rfl, rfl⟩) ?_ ?_
       rotate_left
       ·simp only [Act.put, List.setIfInBounds_toArray, List.set_cons_zero, List.set_cons_succ, i64_w, i32_w]
        rfl
       refine pure_ (i := 19) (N := some 76) (v := undef) (a' := ?_) #[true, true, true, true, true, true, true, true, true, true, true, true, true, true, true, true, true, true, true, true, false, false, false, false, false, false, false, false, false, false, false] rfl rfl (any_of HT_.out (by kernel_rfl)) (fun _ _ _ h => h) (Or.inr ⟨by rfl, rfl⟩) ?_ ?_
       rotate_left
       ·simp only [Act.put, List.setIfInBounds_toArray, List.set_cons_zero, List.set_cons_succ, i64_w, i32_w]
        rfl
       refine pure_ (i := 20) (N := some 77) (v := undef) (a' := ?_) #[true, true, true, true, true, true, true, true, true, true, true, true, true, true, true, true, true, true, true, true, true, false, false, false, false, false, false, false, false, false, false] rfl rfl (any_of HT_.out (by kernel_rfl)) (fun _ _ _ h => h) (Or.inr ⟨by rfl, rfl⟩) ?_ ?_
       rotate_left
       ·simp only [Act.put, List.setIfInBounds_toArray, List.set_cons_zero, List.set_cons_succ, i64_w, i32_w]
        rfl
       refine pure_ (i := 21) (N := some 78) (v := undef) (a' := ?_) #[true, true, true, true, true, true, true, true, true, true, true, true, true, true, true, true, true, true, true, true, true, true, false, false, false, false, false, false, false, false, false] rfl rfl (any_of HT_.out (by kernel_rfl)) (fun _ _ _ h => h) (Or.inr ⟨by rfl, rfl⟩) ?_ ?_
       rotate_left
       ·simp only [Act.put, List.setIfInBounds_toArray, List.set_cons_zero, List.set_cons_succ, i64_w, i32_w]
        rfl
       refine pure_ (i := 22) (N := some 79) (v := undef) (a' := ?_) #[true, true, true, true, true, true, true, true, true, true, true, true, true, true, true, true, true, true, true, true, true, true, true, false, false, false, false, false, false, false, false] rfl rfl (any_of HT_.out (by kernel_rfl)) (fun _ _ _ h => h) (Or.inr ⟨by rfl, rfl⟩) ?_ ?_
       rotate_left
       ·simp only [Act.put, List.setIfInBounds_toArray, List.set_cons_zero, List.set_cons_succ, i64_w, i32_w]
        rfl
       refine pure_ (i := 23) (N := some 80) (v := undef) (a' := ?_) #[true, true, true, true, true, true, true, true, true, true, true, true, true, true, true, true, true, true, true, true, true, true, true, true, false, false, false, false, false, false, false] rfl rfl (any_of HT_.out (by kernel_rfl)) (fun _ _ _ h => h) (Or.inr ⟨by rfl, rfl⟩) ?_ ?_
       rotate_left
       ·simp only [Act.put, List.setIfInBounds_toArray, List.set_cons_zero, List.set_cons_succ, i64_w, i32_w]
        rfl
       refine pure_ (i := 24) (N := some 81) (v := undef) (a' := ?_) #[true, true, true, true, true, true, true, true, true, true, true, true, true, true, true, true, true, true, true, true, true, true, true, true, true, false, false, false, false, false, false] rfl rfl (any_of HT_.out (by kernel_rfl)) (fun _ _ _ h => h) (Or.inr ⟨by rfl, rfl⟩) ?_ ?_
       rotate_left
       ·simp only [Act.put, List.setIfInBounds_toArray, List.set_cons_zero, List.set_cons_succ, i64_w, i32_w]
        rfl
       refine pureA 25 82 HT_ ?_
       refine pureA 26 83 HT_ ?_
       refine pure_ (i := 27) (N := some 84) (v := undef) (a' := ?_) #[true, true, true, true, true, true, true, true, true, true, true, true, true, true, true, true, true, true, true, true, true, true, true, true, true, true, true, true, false, false, false] rfl rfl (any_of HT_.out (by kernel_rfl)) (fun _ _ _ h => h) (Or.inr ⟨by rfl, rfl⟩) ?_ ?_
       rotate_left
       ·simp only [Act.put, List.setIfInBounds_toArray, List.set_cons_zero, List.set_cons_succ, i64_w, i32_w]
        rfl
       refine pure_ (i := 28) (N := some 85) (v := undef) (a' := ?_) #[true, true, true, true, true, true, true, true, true, true, true, true, true, true, true, true, true, true, true, true, true, true, true, true, true, true, true, true, true, false, false] rfl rfl (any_of HT_.out (by kernel_rfl)) (fun _ _ _ h => h) (Or.inr ⟨by rfl, rfl⟩) ?_ ?_
       rotate_left
       ·simp only [Act.put, List.setIfInBounds_toArray, List.set_cons_zero, List.set_cons_succ, i64_w, i32_w]
        rfl
       refine pure_ (i := 29) (N := some 86) (v := undef) (a' := ?_) #[true, true, true, true, true, true, true, true, true, true, true, true, true, true, true, true, true, true, true, true, true, true, true, true, true, true, true, true, true, true, false] rfl rfl (any_of HT_.out (by kernel_rfl)) (fun _ _ _ h => h) (Or.inr ⟨by rfl, rfl⟩) ?_ ?_
       rotate_left
       ·simp only [Act.put, List.setIfInBounds_toArray, List.set_cons_zero, List.set_cons_succ, i64_w, i32_w]
        rfl
       refine pureA 30 87 HT_ ?_
       refine done_ (done_of HT_.out (by kernel_rfl)) ?_
       try go_wp2
       go_meet
       case rel => exact ⟨_, (true), (by first | (with_reducible rfl) | rfl | (simp; done) | (simp [*]; done)), H', ⟨by have := HJ3.out; first | omega | exact Nat.le_refl _⟩, ⟨by (with_reducible repeat (first | apply Kd.V_alloc | apply Kd.V_drewN | apply Kd.V_drew)); exact HO385.out⟩, ⟨by (with_reducible repeat (first | apply Kd.V_alloc | apply Kd.V_drewN | apply Kd.V_drew)); exact HO388.out⟩, ⟨bo BK374⟩, ⟨bo BK375⟩, ⟨bo BK376⟩, ⟨bo BK393⟩, ⟨bo BK394⟩, ⟨bl HB⟩⟩
     ·replace c90 := Bool.eq_false_iff.mpr c90
      subst c90
      rw [if_neg (show ¬ (false = true) by decide)] at H
      have H' := Aside0.mk H
      clear H
      try go_wp2
      replace HO385 := Aside0.mk (Kd.V_drew HO385.out)
      replace HO388 := Aside0.mk (Kd.V_drew HO388.out)
      replace BK374 := Aside0.mk (blk_drew BK374.out)
      replace BK375 := Aside0.mk (blk_drew BK375.out)
      replace BK376 := Aside0.mk (blk_drew BK376.out)
      replace BK393 := Aside0.mk (blk_drew BK393.out)
      replace BK394 := Aside0.mk (blk_drew BK394.out)
      replace HB := Aside0.mk (below_drew1 HB.out)
      refine start_ (n := 31) (S := fun w' => w'.cell? ⟨gb374, 0, none⟩ = some (.int .i64 a0_0) ∧ w'.cell? ⟨gb374, 1, none⟩ = some (.int .i64 a0_1) ∧ w'.cell? ⟨gb374, 2, none⟩ = some (.int .i64 a0_2) ∧ w'.cell? ⟨gb374, 3, none⟩ = some (.int .i64 a0_3) ∧ w'.cell? ⟨gb393, 0, none⟩ = some (.int .i64 t381) ∧ w'.cell? ⟨gb393, 1, none⟩ = some (.int .i64 t382) ∧ w'.cell? ⟨gb393, 2, none⟩ = some (.slice Ao81 t383.length co81) ∧ w'.cell? ⟨gb393, 3, none⟩ = some (.slice Ao82 t386.length co82)) (ds := []) #[false, false, false, false, false, false, false, false, false, false, false, false, false, false, false, false, false, false, false, false, false, false, false, false, false, false, false, false, false, false, false] (by kernel_rfl) rfl rfl ⟨(blk_cell BK374.out 0).trans rfl, (blk_cell BK374.out 1).trans rfl, (blk_cell BK374.out 2).trans rfl, (blk_cell BK374.out 3).trans rfl, (blk_cell BK393.out 0).trans rfl, (blk_cell BK393.out 1).trans rfl, (blk_cell BK393.out 2).trans rfl, (blk_cell BK393.out 3).trans rfl⟩ (fun hHeld => ?_); refine with_tabW sandglasslaw12_RingMay.tab5 sandglasslaw12_RingMay.bits5 (fun HT_ HW_ => ?_)
      generalize w88.drew = w103 at HO385 HO388 BK374 BK375 BK376 BK393 BK394 HB hHeld ⊢
      refine takeA 0 57 HT_ HW_ hHeld ?_
      refine takeA 1 58 HT_ HW_ hHeld ?_
      refine one_ (i := 2) (N := some 59) #[true, true, true, false, false, false, false, false, false, false, false, false, false, false, false, false, false, false, false, false, false, false, false, false, false, false, false, false, false, false, false] rfl rfl (one_of HT_.out (by kernel_rfl)) (by decide) (fun K hK => ?_)
      refine goes_ Try.func13 (by kernel_rfl) rfl #[.agg #[.int .i64 a0_0, .int .i64 a0_1, .int .i64 a0_2, .int .i64 a0_3], .agg #[.int .i64 t381, .int .i64 t382, .slice Ao81 t383.length co81, .slice Ao82 t386.length co82]] (by rfl) rfl rfl (by (try simp only [List.map_toArray, List.map_cons, List.map_nil]); first | done | rfl | (simp only [List.length_drop, List.length_take]; rfl)) ?_
      with_reducible refine (ring_May.calls kj3 a0_0 a0_1 a0_2 a0_3 t381 t382 _ _ t383 _ _ t386 false _ ?side1 ?side2 ?side3 ?side4 A89.out).mono ?_
      (case side1 => repeat (first | exact (Kd.V_reads' HO385.out).2.2 | (with_reducible refine Kd.C_alloc ?_ _) | (with_reducible refine Kd.C_drewN ?_ _) | (with_reducible refine Kd.C_drew ?_)))
      (case side2 => exact (Kd.V_reads' HO385.out).2.1)
      (case side3 => repeat (first | exact (Kd.V_reads' HO388.out).2.2 | (with_reducible refine Kd.C_alloc ?_ _) | (with_reducible refine Kd.C_drewN ?_ _) | (with_reducible refine Kd.C_drew ?_)))
      (case side4 => exact (Kd.V_reads' HO388.out).2.1)
      rintro e w104 ⟨rfl, hb⟩
      refine ⟨_, rfl, ?_⟩
      replace HO385 := vb HO385 hb
      replace HO388 := vb HO388 hb
      replace BK374 := Aside0.mk (blk_below (bo BK374) hb)
      replace BK375 := Aside0.mk (blk_below (bo BK375) hb)
      replace BK376 := Aside0.mk (blk_below (bo BK376) hb)
      replace BK393 := Aside0.mk (blk_below (bo BK393) hb)
      replace BK394 := Aside0.mk (blk_below (bo BK394) hb)
      replace HB := Aside0.mk (below_step (bl HB) hb)
      (try clear hb)
      (try clear hb2)
      (try clear hk)
      (try clear hi)
      refine hK.out _ _ ⟨(blk_cell BK374.out 0).trans rfl, (blk_cell BK374.out 1).trans rfl, (blk_cell BK374.out 2).trans rfl, (blk_cell BK374.out 3).trans rfl, (blk_cell BK393.out 0).trans rfl, (blk_cell BK393.out 1).trans rfl, (blk_cell BK393.out 2).trans rfl, (blk_cell BK393.out 3).trans rfl⟩ (fun hHeld => ?_)
      clear hK K
      refine norm_ (a' := ?_) ?_ ?_
      rotate_left
      ·show Act.put _ (some 59) _ = _
       simp only [Act.put, List.setIfInBounds_toArray, List.set_cons_zero, List.set_cons_succ, i64_w, i32_w]
       rfl
      refine pureA 3 60 HT_ ?_
      refine pureA 4 61 HT_ ?_
      refine pure_ (i := 5) (N := some 62) (v := undef) (a' := ?_) #[true, true, true, true, true, true, false, false, false, false, false, false, false, false, false, false, false, false, false, false, false, false, false, false, false, false, false, false, false, false, false] rfl rfl (any_of HT_.out (by kernel_rfl)) (fun _ _ _ h => h) (Or.inr ⟨by rfl, rfl⟩) ?_ ?_
      rotate_left
      ·simp only [Act.put, List.setIfInBounds_toArray, List.set_cons_zero, List.set_cons_succ, i64_w, i32_w]
       rfl
      refine pure_ (i := 6) (N := some 63) (v := undef) (a' := ?_) #[true, true, true, true, true, true, true, false, false, false, false, false, false, false, false, false, false, false, false, false, false, false, false, false, false, false, false, false, false, false, false] rfl rfl (any_of HT_.out (by kernel_rfl)) (fun _ _ _ h => h) (Or.inr ⟨by rfl, rfl⟩) ?_ ?_
      rotate_left
      ·simp only [Act.put, List.setIfInBounds_toArray, List.set_cons_zero, List.set_cons_succ, i64_w, i32_w]
       rfl
      refine pure_ (i := 7) (N := some 64) (v := undef) (a' := ?_) #[true, true, true, true, true, true, true, true, false, false, false, false, false, false, false, false, false, false, false, false, false, false, false, false, false, false, false, false, false, false, false] rfl rfl (any_of HT_.out (by kernel_rfl)) (fun _ _ _ h => h) (Or.inr ⟨by rfl, rfl⟩) ?_ ?_
      rotate_left
      ·simp only [Act.put, List.setIfInBounds_toArray, List.set_cons_zero, List.set_cons_succ, i64_w, i32_w]
       rfl
      refine pure_ (i := 8) (N := some 65) (v := undef) (a' := ?_) #[true, true, true, true, true, true, true, true, true, false, false, false, false, false, false, false, false, false, false, false, false, false, false, false, false, false, false, false, false, false, false] rfl rfl (any_of HT_.out (by kernel_rfl)) (fun _ _ _ h => h) (Or.inr ⟨by rfl, rfl⟩) ?_ ?_
      rotate_left
      ·simp only [Act.put, List.setIfInBounds_toArray, List.set_cons_zero, List.set_cons_succ, i64_w, i32_w]
       rfl
      refine pure_ (i := 9) (N := some 66) (v := undef) (a' := ?_) #[true, true, true, true, true, true, true, true, true, true, false, false, false, false, false, false, false, false, false, false, false, false, false, false, false, false, false, false, false, false, false] rfl rfl (any_of HT_.out (by kernel_rfl)) (fun _ _ _ h => h) (Or.inr ⟨by rfl, rfl⟩) ?_ ?_
      rotate_left
      ·simp only [Act.put, List.setIfInBounds_toArray, List.set_cons_zero, List.set_cons_succ, i64_w, i32_w]
       rfl
      refine pure_ (i := 10) (N := some 67) (v := undef) (a' := ?_) #[true, true, true, true, true, true, true, true, true, true, true, false, false, false, false, false, false, false, false, false, false, false, false, false, false, false, false, false, false, false, false] rfl rfl (any_of HT_.out (by kernel_rfl)) (fun _ _ _ h => h) (Or.inr ⟨by rfl, rfl⟩) ?_ ?_
      rotate_left
      ·simp only [Act.put, List.setIfInBounds_toArray, List.set_cons_zero, List.set_cons_succ, i64_w, i32_w]
       rfl
      refine pure_ (i := 11) (N := some 68) (v := undef) (a' := ?_) #[true, true, true, true, true, true, true, true, true, true, true, true, false, false, false, false, false, false, false, false, false, false, false, false, false, false, false, false, false, false, false] rfl rfl (any_of HT_.out (by kernel_rfl)) (fun _ _ _ h => h) (Or.inr ⟨by rfl, rfl⟩) ?_ ?_
      rotate_left
      ·simp only [Act.put, List.setIfInBounds_toArray, List.set_cons_zero, List.set_cons_succ, i64_w, i32_w]
       rfl
      refine pureA 12 69 HT_ ?_
      refine pureA 13 70 HT_ ?_
      refine pure_ (i := 14) (N := some 71) (v := undef) (a' := ?_) #[true, true, true, true, true, true, true, true, true, true, true, true, true, true, true, false, false, false, false, false, false, false, false, false, false, false, false, false, false, false, false] rfl rfl (any_of HT_.out (by kernel_rfl)) (fun _ _ _ h => h) (Or.inr ⟨by rfl, rfl⟩) ?_ ?_
      rotate_left
      ·simp only [Act.put, List.setIfInBounds_toArray, List.set_cons_zero, List.set_cons_succ, i64_w, i32_w]
       rfl
      refine pure_ (i := 15) (N := some 72) (v := undef) (a' := ?_) #[true, true, true, true, true, true, true, true, true, true, true, true, true, true, true, true, false, false, false, false, false, false, false, false, false, false, false, false, false, false, false] rfl rfl (any_of HT_.out (by kernel_rfl)) (fun _ _ _ h => h) (Or.inr ⟨by rfl, rfl⟩) ?_ ?_
      rotate_left
      ·simp only [Act.put, List.setIfInBounds_toArray, List.set_cons_zero, List.set_cons_succ, i64_w, i32_w]
       rfl
      refine pure_ (i := 16) (N := some 73) (v := undef) (a' := ?_) #[true, true, true, true, true, true, true, true, true, true, true, true, true, true, true, true, true, false, false, false, false, false, false, false, false, false, false, false, false, false, false] rfl rfl (any_of HT_.out (by kernel_rfl)) (fun _ _ _ h => h) (Or.inr ⟨by rfl, rfl⟩) ?_ ?_
      rotate_left
      ·simp only [Act.put, List.setIfInBounds_toArray, List.set_cons_zero, List.set_cons_succ, i64_w, i32_w]
       rfl
      refine pure_ (i := 17) (N := some 74) (v := undef) (a' := ?_) #[true, true, true, true, true, true, true, true, true, true, true, true, true, true, true, true, true, true, false, false, false, false, false, false, false, false, false, false, false, false, false] rfl rfl (any_of HT_.out (by kernel_rfl)) (fun _ _ _ h => h) (Or.inr ⟨by rfl, rfl⟩) ?_ ?_
      rotate_left
      ·simp only [Act.put, List.setIfInBounds_toArray, List.set_cons_zero, List.set_cons_succ, i64_w, i32_w]
       rfl
      refine pure_ (i := 18) (N := some 75) (v := undef) (a' := ?_) #[true, true, true, true, true, true, true, true, true, true, true, true, true, true, true, true, true, true, true, false, false, false, false, false, false, false, false, false, false, false, false] rfl rfl (any_of HT_.out (by kernel_rfl)) (fun _ _ _ h => h) (Or.inr ⟨by rfl, rfl⟩) ?_ ?_
      rotate_left
      ·simp only [Act.put, List.setIfInBounds_toArray, List.set_cons_zero, List.set_cons_succ, i64_w, i32_w]
       rfl
      refine pure_ (i := 19) (N := some 76) (v := undef) (a' := ?_) #[true, true, true, true, true, true, true, true, true, true, true, true, true, true, true, true, true, true, true, true, false, false, false, false, false, false, false, false, false, false, false] rfl rfl (any_of HT_.out (by kernel_rfl)) (fun _ _ _ h => h) (Or.inr ⟨by rfl, rfl⟩) ?_ ?_
      rotate_left
      ·simp only [Act.put, List.setIfInBounds_toArray, List.set_cons_zero, List.set_cons_succ, i64_w, i32_w]
       rfl
      refine pure_ (i := 20) (N := some 77) (v := undef) (a' := ?_) #[true, true, true, true, true, true, true, true, true, true, true, true, true, true, true, true, true, true, true, true, true, false, false, false, false, false, false, false, false, false, false] rfl rfl (any_of HT_.out (by kernel_rfl)) (fun _ _ _ h => h) (Or.inr ⟨by rfl, rfl⟩) ?_ ?_
      rotate_left
      ·simp only [Act.put, List.setIfInBounds_toArray, List.set_cons_zero, List.set_cons_succ, i64_w, i32_w]
       rfl
      refine pure_ (i := 21) (N := some 78) (v := undef) (a' := ?_) #[true, true, true, true, true, true, true, true, true, true, true, true, true, true, true, true, true, true, true, true, true, true, false, false, false, false, false, false, false, false, false] rfl rfl (any_of HT_.out (by kernel_rfl)) (fun _ _ _ h => h) (Or.inr ⟨by rfl, rfl⟩) ?_ ?_
      rotate_left
      ·simp only [Act.put, List.setIfInBounds_toArray, List.set_cons_zero, List.set_cons_succ, i64_w, i32_w]
       rfl
      refine pure_ (i := 22) (N := some 79) (v := undef) (a' := ?_) #[true, true, true, true, true, true, true, true, true, true, true, true, true, true, true, true, true, true, true, true, true, true, true, false, false, false, false, false, false, false, false] rfl rfl (any_of HT_.out (by kernel_rfl)) (fun _ _ _ h => h) (Or.inr ⟨by rfl, rfl⟩) ?_ ?_
      rotate_left
      ·simp only [Act.put, List.setIfInBounds_toArray, List.set_cons_zero, List.set_cons_succ, i64_w, i32_w]
       rfl
      refine pure_ (i := 23) (N := some 80) (v := undef) (a' := ?_) #[true, true, true, true, true, true, true, true, true, true, true, true, true, true, true, true, true, true, true, true, true, true, true, true, false, false, false, false, false, false, false] rfl rfl (any_of HT_.out (by kernel_rfl)) (fun _ _ _ h => h) (Or.inr ⟨by rfl, rfl⟩) ?_ ?_
      rotate_left
      ·simp only [Act.put, List.setIfInBounds_toArray, List.set_cons_zero, List.set_cons_succ, i64_w, i32_w]
       rfl
      refine pure_ (i := 24) (N := some 81) (v := undef) (a' := ?_) #[true, true, true, true, true, true, true, true, true, true, true, true, true, true, true, true, true, true, true, true, true, true, true, true, true, false, false, false, false, false, false] rfl rfl (any_of HT_.out (by kernel_rfl)) (fun _ _ _ h => h) (Or.inr ⟨by rfl, rfl⟩) ?_ ?_
      rotate_left
      ·simp only [Act.put, List.setIfInBounds_toArray, List.set_cons_zero, List.set_cons_succ, i64_w, i32_w]
       rfl
      refine pureA 25 82 HT_ ?_
      refine pureA 26 83 HT_ ?_
      refine pure_ (i := 27) (N := some 84) (v := undef) (a' := ?_) #[true, true, true, true, true, true, true, true, true, true, true, true, true, true, true, true, true, true, true, true, true, true, true, true, true, true, true, true, false, false, false] rfl rfl (any_of HT_.out (by kernel_rfl)) (fun _ _ _ h => h) (Or.inr ⟨by rfl, rfl⟩) ?_ ?_
      rotate_left
      ·simp only [Act.put, List.setIfInBounds_toArray, List.set_cons_zero, List.set_cons_succ, i64_w, i32_w]
       rfl
      refine pure_ (i := 28) (N := some 85) (v := undef) (a' := ?_) #[true, true, true, true, true, true, true, true, true, true, true, true, true, true, true, true, true, true, true, true, true, true, true, true, true, true, true, true, true, false, false] rfl rfl (any_of HT_.out (by kernel_rfl)) (fun _ _ _ h => h) (Or.inr ⟨by rfl, rfl⟩) ?_ ?_
      rotate_left
      ·simp only [Act.put, List.setIfInBounds_toArray, List.set_cons_zero, List.set_cons_succ, i64_w, i32_w]
       rfl
      refine pure_ (i := 29) (N := some 86) (v := undef) (a' := ?_) #[true, true, true, true, true, true, true, true, true, true, true, true, true, true, true, true, true, true, true, true, true, true, true, true, true, true, true, true, true, true, false] rfl rfl (any_of HT_.out (by kernel_rfl)) (fun _ _ _ h => h) (Or.inr ⟨by rfl, rfl⟩) ?_ ?_
      rotate_left
      ·simp only [Act.put, List.setIfInBounds_toArray, List.set_cons_zero, List.set_cons_succ, i64_w, i32_w]
       rfl
      refine pureA 30 87 HT_ ?_
      refine done_ (done_of HT_.out (by kernel_rfl)) ?_
      try go_wp2
      go_meet
      case rel => exact ⟨_, (true), (by first | (with_reducible rfl) | rfl | (simp; done) | (simp [*]; done)), H', ⟨by have := HJ3.out; first | omega | exact Nat.le_refl _⟩, ⟨by (with_reducible repeat (first | apply Kd.V_alloc | apply Kd.V_drewN | apply Kd.V_drew)); exact HO385.out⟩, ⟨by (with_reducible repeat (first | apply Kd.V_alloc | apply Kd.V_drewN | apply Kd.V_drew)); exact HO388.out⟩, ⟨bo BK374⟩, ⟨bo BK375⟩, ⟨bo BK376⟩, ⟨bo BK393⟩, ⟨bo BK394⟩, ⟨bl HB⟩⟩
    case rest =>
     as_aux_lemma =>
     clear HC67
     try clear c13; try clear c90; try clear c92; try clear c92b0; try clear c92b1
     obtain ⟨kq, x87_66, rfl, HA, HJ66, HO_394002, HO_394003, BK374, BK375, BK376, BK393, BK394, HB⟩ := hcut
     cases kq with
     | zero => exact absurd HA.out (by simp [sandglasslaw12_RingMay.j1])
     | succ kj66 =>
      have H := HA.out
      clear HA
      simp only [sandglasslaw12_RingMay.j1] at H
      by_cases c105 : x87_66 = true
      ·subst c105
       rw [if_pos rfl] at H
       exact absurd H (by simp)
      ·replace c105 := Bool.eq_false_iff.mpr c105
       subst c105
       rw [if_neg (show ¬ (false = true) by decide)] at H
       have HC106 := Aside0.mk H
       clear H
       have hnb107 := NB394_374.out
       have hnc107 := NB374_394.out
       have hnb108 := NB394_375.out
       have hnc108 := NB375_394.out
       have hnb109 := NB394_376.out
       have hnc109 := NB376_394.out
       have hnb110 := NB394_393.out
       have hnc110 := NB393_394.out
       obtain ⟨hcz111_0, hcz111_1, hcz111_2, hcz111_3⟩ := ce4 BK394
       obtain ⟨hfz111_0, hfz111_1, hfz111_2, hfz111_3⟩ := fr4 BK394
       go_upto_if 90 with (fail)
       go_cut [] (fun wc => ∃ (kq : Nat), Aside0 (sandglasslaw12_RingMay.j2 kq a2_1 a0_0 a0_1 a0_2 a0_3 t381 t382 t383 t386 t389 t390 t391 t392 = some r) ∧ Aside0 (kq ≤ kj66) ∧ Aside0 (Kd.V (Kd.int .i64) 3 wc w.heap.size (fun k_ => k_ ≠ gb374 ∧ k_ ≠ gb375 ∧ k_ ≠ gb376 ∧ k_ ≠ gb393 ∧ k_ ≠ gb394) (.slice Ao81 t383.length co81) t383) ∧ Aside0 (Kd.V k54 54 wc w.heap.size (fun k_ => k_ ≠ gb374 ∧ k_ ≠ gb375 ∧ k_ ≠ gb376 ∧ k_ ≠ gb393 ∧ k_ ≠ gb394) (.slice Ao82 t386.length co82) t386) ∧ Aside0 (wc.heap[gb374]? = some (.cells #[.int .i64 a0_0, .int .i64 a0_1, .int .i64 a0_2, .int .i64 a0_3] 23 (0, 0))) ∧ Aside0 (wc.heap[gb375]? = some (.cells #[.int .i64 a1_0, .int .i64 a1_1, (.slice A1_2 l1_2.length c1_2), (.slice A1_3 l1_3.length c1_3)] 27 (0, 0))) ∧ Aside0 (wc.heap[gb376]? = some (.cells #[.int .i64 a2_0, .int .i64 a2_1] 28 (0, 0))) ∧ Aside0 (wc.heap[gb393]? = some (.cells #[.int .i64 t381, .int .i64 t382, (.slice Ao81 t383.length co81), (.slice Ao82 t386.length co82)] 27 (0, 0))) ∧ Aside0 (wc.heap[gb394]? = some (.cells #[.bool t389, .int .i64 t390, .int .i64 t391, .int .i64 t392] 32 (0, 0))) ∧ Aside0 (Below w.heap.size w wc))
       case first =>
        as_aux_lemma =>
        have H := HC106.out
        clear HC106
        by_cases c112 : t390 > 0
        ·rw [if_pos c112] at H
         have c112b0 : decide (0 < t390) = true := decide_eq_true c112
         clear c112
         (first | rw [c112b0] | (simp only [i64_w, i32_w]; rw [c112b0]) | skip)
         replace H := Option.bind_eq_some_iff.mp H
         obtain ⟨⟨t397, t398, t399, t402, t405, t406, t407, t408⟩, A1130, H⟩ := H
         have A113 := Aside0.mk A1130
         clear A1130
         by_cases c114 : t405 = true
         ·subst c114
          rw [if_pos rfl] at H
          have H' := Aside0.mk H
          clear H
          have hnb115 := NB374_375.out
          have hnc115 := NB375_374.out
          have hnb116 := NB374_376.out
          have hnc116 := NB376_374.out
          have hnb117 := NB374_393.out
          have hnc117 := NB393_374.out
          have hnb118 := NB374_394.out
          have hnc118 := NB394_374.out
          obtain ⟨hcz119_0, hcz119_1, hcz119_2, hcz119_3⟩ := ce4 BK374
          obtain ⟨hfz119_0, hfz119_1, hfz119_2, hfz119_3⟩ := fr4 BK374
          have hnb120 := NB393_375.out
          have hnc120 := NB375_393.out
          have hnb121 := NB393_376.out
          have hnc121 := NB376_393.out
          have hnb122 := NB393_394.out
          have hnc122 := NB394_393.out
          obtain ⟨hcz123_0, hcz123_1, hcz123_2, hcz123_3⟩ := ce4 BK393
          obtain ⟨hfz123_0, hfz123_1, hfz123_2, hfz123_3⟩ := fr4 BK393
          have hnb124 := NB394_375.out
          have hnc124 := NB375_394.out
          have hnb125 := NB394_376.out
          have hnc125 := NB376_394.out
          obtain ⟨hcz126_0, hcz126_1, hcz126_2, hcz126_3⟩ := ce4 BK394
          obtain ⟨hfz126_0, hfz126_1, hfz126_2, hfz126_3⟩ := fr4 BK394
          go_wp2_with (first | ((with_reducible refine gate_callee (f := 10) rfl ?_); refine goesL_ (some 98) rfl rfl Try.func10 (by kernel_rfl) rfl #[.agg #[.int .i64 a0_0, .int .i64 a0_1, .int .i64 a0_2, .int .i64 a0_3], .agg #[.int .i64 t381, .int .i64 t382, .slice Ao81 t383.length co81, .slice Ao82 t386.length co82], .int .i64 t381, .int .i64 t390] rfl (by (try simp only [List.map_toArray, List.map_cons, List.map_nil]); first | done | rfl | (simp only [List.length_drop, List.length_take]; rfl)) ?_; (with_reducible refine (ring_Ask.calls kj66 a0_0 a0_1 a0_2 a0_3 t381 t382 (fun k_ => (k_ ≠ gb374 ∧ (k_ ≠ gb375 ∧ (k_ ≠ gb376 ∧ (k_ ≠ gb393 ∧ k_ ≠ gb394))))) _ _ t383 (fun k_ => (k_ ≠ gb374 ∧ (k_ ≠ gb375 ∧ (k_ ≠ gb376 ∧ (k_ ≠ gb393 ∧ k_ ≠ gb394))))) _ _ t386 t381 t390 t397 t398 t399 t402 true t406 t407 t408 _ ?side1 ?side2 A113.out).mono ?_); (case side1 => exact HO_394002.out); (case side2 => exact HO_394003.out); rintro e w127 ⟨v400, v403, rfl, ho0, ho1, hb⟩; refine ⟨_, rfl, ?_⟩; have HO401 := Aside0.mk (Kd.V_lower (Kd.V_mono (ok' := fun k_ => k_ ≠ gb374 ∧ k_ ≠ gb375 ∧ k_ ≠ gb376 ∧ k_ ≠ gb393 ∧ k_ ≠ gb394) ho0 (fun k_ hk_ => ⟨Or.elim hk_ (fun hs_ => Or.elim hs_ (fun hs_ => hs_.1) (fun hs_ => hs_.1)) (fun hn_ => (Kd.freshB (bo BK374) k_ hn_)), Or.elim hk_ (fun hs_ => Or.elim hs_ (fun hs_ => hs_.2.1) (fun hs_ => hs_.2.1)) (fun hn_ => (Kd.freshB (bo BK375) k_ hn_)), Or.elim hk_ (fun hs_ => Or.elim hs_ (fun hs_ => hs_.2.2.1) (fun hs_ => hs_.2.2.1)) (fun hn_ => (Kd.freshB (bo BK376) k_ hn_)), Or.elim hk_ (fun hs_ => Or.elim hs_ (fun hs_ => hs_.2.2.2.1) (fun hs_ => hs_.2.2.2.1)) (fun hn_ => (Kd.freshB (bo BK393) k_ hn_)), Or.elim hk_ (fun hs_ => Or.elim hs_ (fun hs_ => hs_.2.2.2.2) (fun hs_ => hs_.2.2.2.2)) (fun hn_ => (Kd.freshB (bo BK394) k_ hn_))⟩)) (below_size (bl HB))); have HO404 := Aside0.mk (Kd.V_lower (Kd.V_mono (ok' := fun k_ => k_ ≠ gb374 ∧ k_ ≠ gb375 ∧ k_ ≠ gb376 ∧ k_ ≠ gb393 ∧ k_ ≠ gb394) ho1 (fun k_ hk_ => ⟨Or.elim hk_ (fun hs_ => Or.elim hs_ (fun hs_ => hs_.1) (fun hs_ => hs_.1)) (fun hn_ => (Kd.freshB (bo BK374) k_ hn_)), Or.elim hk_ (fun hs_ => Or.elim hs_ (fun hs_ => hs_.2.1) (fun hs_ => hs_.2.1)) (fun hn_ => (Kd.freshB (bo BK375) k_ hn_)), Or.elim hk_ (fun hs_ => Or.elim hs_ (fun hs_ => hs_.2.2.1) (fun hs_ => hs_.2.2.1)) (fun hn_ => (Kd.freshB (bo BK376) k_ hn_)), Or.elim hk_ (fun hs_ => Or.elim hs_ (fun hs_ => hs_.2.2.2.1) (fun hs_ => hs_.2.2.2.1)) (fun hn_ => (Kd.freshB (bo BK393) k_ hn_)), Or.elim hk_ (fun hs_ => Or.elim hs_ (fun hs_ => hs_.2.2.2.2) (fun hs_ => hs_.2.2.2.2)) (fun hn_ => (Kd.freshB (bo BK394) k_ hn_))⟩)) (below_size (bl HB))); replace HO_394002 := vb HO_394002 hb; replace HO_394003 := vb HO_394003 hb; replace BK374 := Aside0.mk (blk_below (bo BK374) hb); replace BK375 := Aside0.mk (blk_below (bo BK375) hb); replace BK376 := Aside0.mk (blk_below (bo BK376) hb); replace BK393 := Aside0.mk (blk_below (bo BK393) hb); replace BK394 := Aside0.mk (blk_below (bo BK394) hb); replace HB := Aside0.mk (below_step (bl HB) hb); (try clear hb); (try clear hb2); (try clear hk); (try clear hi); (try clear ho0); (try clear ho1)) | ((with_reducible refine gate_dst (N := 11) rfl ?_); (try (refine gate_guard (by rfl) ?_; dsimp only)); refine box_event ?hg (N := 11) ?hd (cs := #[.int .i64 0, .int .i64 0, .slice none 0 0, .slice none 0 0]) (t := 27) ?hr ?_; (case hd => rfl); (case hg => rfl); (case hr => first | (go_simp; done) | (go_simp; rfl)); intro gb409 hg w128 hbox hb; have BK409 := Aside0.mk (hbox); have GW409 := Aside0.mk ((by rw [hg]; exact (below_size (bl HB)) : w.heap.size ≤ gb409)); have GE409 := Aside0.mk ((by rw [hg]; exact (below_size (bl HB)) : w.heap.size ≤ gb409)); have NB374_409 := nb BK374 hg; have NB409_374 := bn BK374 hg; have NB375_409 := nb BK375 hg; have NB409_375 := bn BK375 hg; have NB376_409 := nb BK376 hg; have NB409_376 := bn BK376 hg; have NB393_409 := nb BK393 hg; have NB409_393 := bn BK393 hg; have NB394_409 := nb BK394 hg; have NB409_394 := bn BK394 hg; replace HO_394002 := ve HO_394002 hg hb; replace HO_394003 := ve HO_394003 hg hb; replace HO401 := ve HO401 hg hb; replace HO404 := ve HO404 hg hb; replace BK374 := Aside0.mk (blk_below (bo BK374) hb); replace BK375 := Aside0.mk (blk_below (bo BK375) hb); replace BK376 := Aside0.mk (blk_below (bo BK376) hb); replace BK393 := Aside0.mk (blk_below (bo BK393) hb); replace BK394 := Aside0.mk (blk_below (bo BK394) hb); replace HB := Aside0.mk (below_step (bl HB) hb); clear hb hbox hg) | ((with_reducible refine gate_dst (N := 12) rfl ?_); (try (refine gate_guard (by rfl) ?_; dsimp only)); refine box_event ?hg (N := 12) ?hd (cs := #[.bool false, .int .i64 0, .int .i64 0, .int .i64 0]) (t := 32) ?hr ?_; (case hd => rfl); (case hg => rfl); (case hr => first | (go_simp; done) | (go_simp; rfl)); intro gb410 hg w129 hbox hb; have BK410 := Aside0.mk (hbox); have GW410 := Aside0.mk ((by rw [hg]; exact (below_size (bl HB)) : w.heap.size ≤ gb410)); have GE410 := Aside0.mk ((by rw [hg]; exact (below_size (bl HB)) : w.heap.size ≤ gb410)); have NB374_410 := nb BK374 hg; have NB410_374 := bn BK374 hg; have NB375_410 := nb BK375 hg; have NB410_375 := bn BK375 hg; have NB376_410 := nb BK376 hg; have NB410_376 := bn BK376 hg; have NB393_410 := nb BK393 hg; have NB410_393 := bn BK393 hg; have NB394_410 := nb BK394 hg; have NB410_394 := bn BK394 hg; have NB409_410 := nb BK409 hg; have NB410_409 := bn BK409 hg; replace HO_394002 := ve HO_394002 hg hb; replace HO_394003 := ve HO_394003 hg hb; replace HO401 := ve HO401 hg hb; replace HO404 := ve HO404 hg hb; replace BK374 := Aside0.mk (blk_below (bo BK374) hb); replace BK375 := Aside0.mk (blk_below (bo BK375) hb); replace BK376 := Aside0.mk (blk_below (bo BK376) hb); replace BK393 := Aside0.mk (blk_below (bo BK393) hb); replace BK394 := Aside0.mk (blk_below (bo BK394) hb); replace BK409 := Aside0.mk (blk_below (bo BK409) hb); replace HB := Aside0.mk (below_step (bl HB) hb); clear hb hbox hg; have hnb130 := NB409_374.out; have hnc130 := NB374_409.out; have hnb131 := NB409_375.out; have hnc131 := NB375_409.out; have hnb132 := NB409_376.out; have hnc132 := NB376_409.out; have hnb133 := NB409_393.out; have hnc133 := NB393_409.out; have hnb134 := NB409_394.out; have hnc134 := NB394_409.out; have hnb135 := NB409_410.out; have hnc135 := NB410_409.out; obtain ⟨hcz136_0, hcz136_1, hcz136_2, hcz136_3⟩ := ce4 BK409; obtain ⟨hfz136_0, hfz136_1, hfz136_2, hfz136_3⟩ := fr4 BK409; obtain ⟨Ao137, co137, eo137⟩ := Kd.V_slice HO401.out; subst eo137; obtain ⟨Ao138, co138, eo138⟩ := Kd.V_slice HO404.out; subst eo138) | ((with_reducible refine gate_store (t := 27) (p := 11) rfl ?_); refine store_event (t := 27) (p := 11) (v := ?vo_w139) (w1 := ((((w129.setCell ⟨gb409, 0, none⟩ (.int .i64 t397)).setCell ⟨gb409, 1, none⟩ (.int .i64 t398)).setCell ⟨gb409, 2, none⟩ (.slice Ao137 t399.length co137)).setCell ⟨gb409, 3, none⟩ (.slice Ao138 t402.length co138))) ?hg ?ho ?hn ?hr ?_; (case ho => rfl); (case hg => rfl); (case hn => rfl); (case hr => first | (go_simp; done) | (go_simp; rfl)); intro w139 hw; replace HO_394002 : Aside0 (Kd.V (Kd.int .i64) 3 w139 w.heap.size (fun k_ => k_ ≠ gb374 ∧ k_ ≠ gb375 ∧ k_ ≠ gb376 ∧ k_ ≠ gb393 ∧ k_ ≠ gb394 ∧ k_ ≠ gb409 ∧ k_ ≠ gb410) (.slice Ao81 t383.length co81) t383) := ⟨(by rw [hw]; exact (by (with_reducible repeat (first | apply Kd.V_alloc | apply Kd.V_drewN | apply Kd.V_drew)); exact Kd.V_mono (Kd.V_far (p := ⟨gb409, 3, none⟩) (Kd.V_far (p := ⟨gb409, 2, none⟩) (Kd.V_far (p := ⟨gb409, 1, none⟩) (Kd.V_far (p := ⟨gb409, 0, none⟩) (Kd.V_mono HO_394002.out (fun k_ hk => (⟨hk, hk.1.2⟩ : _ ∧ k_ ≠ gb409))) (fun _ hk => hk.2) (.int .i64 t397)) (fun _ hk => hk.2) (.int .i64 t398)) (fun _ hk => hk.2) (.slice Ao137 t399.length co137)) (fun _ hk => hk.2) (.slice Ao138 t402.length co138)) (fun _ hk => ⟨hk.1.1.1.1, ⟨hk.1.1.1.2.1, ⟨hk.1.1.1.2.2.1, ⟨hk.1.1.1.2.2.2.1, ⟨hk.1.1.1.2.2.2.2, ⟨hk.1.1.2, hk.1.2⟩⟩⟩⟩⟩⟩)))⟩; replace HO_394003 : Aside0 (Kd.V k54 54 w139 w.heap.size (fun k_ => k_ ≠ gb374 ∧ k_ ≠ gb375 ∧ k_ ≠ gb376 ∧ k_ ≠ gb393 ∧ k_ ≠ gb394 ∧ k_ ≠ gb409 ∧ k_ ≠ gb410) (.slice Ao82 t386.length co82) t386) := ⟨(by rw [hw]; exact (by (with_reducible repeat (first | apply Kd.V_alloc | apply Kd.V_drewN | apply Kd.V_drew)); exact Kd.V_mono (Kd.V_far (p := ⟨gb409, 3, none⟩) (Kd.V_far (p := ⟨gb409, 2, none⟩) (Kd.V_far (p := ⟨gb409, 1, none⟩) (Kd.V_far (p := ⟨gb409, 0, none⟩) (Kd.V_mono HO_394003.out (fun k_ hk => (⟨hk, hk.1.2⟩ : _ ∧ k_ ≠ gb409))) (fun _ hk => hk.2) (.int .i64 t397)) (fun _ hk => hk.2) (.int .i64 t398)) (fun _ hk => hk.2) (.slice Ao137 t399.length co137)) (fun _ hk => hk.2) (.slice Ao138 t402.length co138)) (fun _ hk => ⟨hk.1.1.1.1, ⟨hk.1.1.1.2.1, ⟨hk.1.1.1.2.2.1, ⟨hk.1.1.1.2.2.2.1, ⟨hk.1.1.1.2.2.2.2, ⟨hk.1.1.2, hk.1.2⟩⟩⟩⟩⟩⟩)))⟩; replace HO401 : Aside0 (Kd.V (Kd.int .i64) 3 w139 w.heap.size (fun k_ => k_ ≠ gb374 ∧ k_ ≠ gb375 ∧ k_ ≠ gb376 ∧ k_ ≠ gb393 ∧ k_ ≠ gb394 ∧ k_ ≠ gb409 ∧ k_ ≠ gb410) (.slice Ao137 t399.length co137) t399) := ⟨(by rw [hw]; exact (by (with_reducible repeat (first | apply Kd.V_alloc | apply Kd.V_drewN | apply Kd.V_drew)); exact Kd.V_mono (Kd.V_far (p := ⟨gb409, 3, none⟩) (Kd.V_far (p := ⟨gb409, 2, none⟩) (Kd.V_far (p := ⟨gb409, 1, none⟩) (Kd.V_far (p := ⟨gb409, 0, none⟩) (Kd.V_mono HO401.out (fun k_ hk => (⟨hk, hk.1.2⟩ : _ ∧ k_ ≠ gb409))) (fun _ hk => hk.2) (.int .i64 t397)) (fun _ hk => hk.2) (.int .i64 t398)) (fun _ hk => hk.2) (.slice Ao137 t399.length co137)) (fun _ hk => hk.2) (.slice Ao138 t402.length co138)) (fun _ hk => ⟨hk.1.1.1.1, ⟨hk.1.1.1.2.1, ⟨hk.1.1.1.2.2.1, ⟨hk.1.1.1.2.2.2.1, ⟨hk.1.1.1.2.2.2.2, ⟨hk.1.1.2, hk.1.2⟩⟩⟩⟩⟩⟩)))⟩; replace HO404 : Aside0 (Kd.V k54 54 w139 w.heap.size (fun k_ => k_ ≠ gb374 ∧ k_ ≠ gb375 ∧ k_ ≠ gb376 ∧ k_ ≠ gb393 ∧ k_ ≠ gb394 ∧ k_ ≠ gb409 ∧ k_ ≠ gb410) (.slice Ao138 t402.length co138) t402) := ⟨(by rw [hw]; exact (by (with_reducible repeat (first | apply Kd.V_alloc | apply Kd.V_drewN | apply Kd.V_drew)); exact Kd.V_mono (Kd.V_far (p := ⟨gb409, 3, none⟩) (Kd.V_far (p := ⟨gb409, 2, none⟩) (Kd.V_far (p := ⟨gb409, 1, none⟩) (Kd.V_far (p := ⟨gb409, 0, none⟩) (Kd.V_mono HO404.out (fun k_ hk => (⟨hk, hk.1.2⟩ : _ ∧ k_ ≠ gb409))) (fun _ hk => hk.2) (.int .i64 t397)) (fun _ hk => hk.2) (.int .i64 t398)) (fun _ hk => hk.2) (.slice Ao137 t399.length co137)) (fun _ hk => hk.2) (.slice Ao138 t402.length co138)) (fun _ hk => ⟨hk.1.1.1.1, ⟨hk.1.1.1.2.1, ⟨hk.1.1.1.2.2.1, ⟨hk.1.1.1.2.2.2.1, ⟨hk.1.1.1.2.2.2.2, ⟨hk.1.1.2, hk.1.2⟩⟩⟩⟩⟩⟩)))⟩; replace BK374 : Aside0 (w139.heap[gb374]? = some (.cells #[.int .i64 a0_0, .int .i64 a0_1, .int .i64 a0_2, .int .i64 a0_3] 23 (0, 0))) := ⟨(by rw [hw]; exact (by (with_reducible repeat (first | refine blk_drewN ?_ _ | refine blk_drew ?_ | refine blk_alloc ?_ _)); refine blk_far ?_ NB374_409.out _; (with_reducible repeat (first | refine blk_drewN ?_ _ | refine blk_drew ?_ | refine blk_alloc ?_ _)); refine blk_far ?_ NB374_409.out _; (with_reducible repeat (first | refine blk_drewN ?_ _ | refine blk_drew ?_ | refine blk_alloc ?_ _)); refine blk_far ?_ NB374_409.out _; (with_reducible repeat (first | refine blk_drewN ?_ _ | refine blk_drew ?_ | refine blk_alloc ?_ _)); refine blk_far ?_ NB374_409.out _; (with_reducible repeat (first | refine blk_drewN ?_ _ | refine blk_drew ?_ | refine blk_alloc ?_ _)); exact BK374.out))⟩; replace BK375 : Aside0 (w139.heap[gb375]? = some (.cells #[.int .i64 a1_0, .int .i64 a1_1, .slice A1_2 l1_2.length c1_2, .slice A1_3 l1_3.length c1_3] 27 (0, 0))) := ⟨(by rw [hw]; exact (by (with_reducible repeat (first | refine blk_drewN ?_ _ | refine blk_drew ?_ | refine blk_alloc ?_ _)); refine blk_far ?_ NB375_409.out _; (with_reducible repeat (first | refine blk_drewN ?_ _ | refine blk_drew ?_ | refine blk_alloc ?_ _)); refine blk_far ?_ NB375_409.out _; (with_reducible repeat (first | refine blk_drewN ?_ _ | refine blk_drew ?_ | refine blk_alloc ?_ _)); refine blk_far ?_ NB375_409.out _; (with_reducible repeat (first | refine blk_drewN ?_ _ | refine blk_drew ?_ | refine blk_alloc ?_ _)); refine blk_far ?_ NB375_409.out _; (with_reducible repeat (first | refine blk_drewN ?_ _ | refine blk_drew ?_ | refine blk_alloc ?_ _)); exact BK375.out))⟩; replace BK376 : Aside0 (w139.heap[gb376]? = some (.cells #[.int .i64 a2_0, .int .i64 a2_1] 28 (0, 0))) := ⟨(by rw [hw]; exact (by (with_reducible repeat (first | refine blk_drewN ?_ _ | refine blk_drew ?_ | refine blk_alloc ?_ _)); refine blk_far ?_ NB376_409.out _; (with_reducible repeat (first | refine blk_drewN ?_ _ | refine blk_drew ?_ | refine blk_alloc ?_ _)); refine blk_far ?_ NB376_409.out _; (with_reducible repeat (first | refine blk_drewN ?_ _ | refine blk_drew ?_ | refine blk_alloc ?_ _)); refine blk_far ?_ NB376_409.out _; (with_reducible repeat (first | refine blk_drewN ?_ _ | refine blk_drew ?_ | refine blk_alloc ?_ _)); refine blk_far ?_ NB376_409.out _; (with_reducible repeat (first | refine blk_drewN ?_ _ | refine blk_drew ?_ | refine blk_alloc ?_ _)); exact BK376.out))⟩; replace BK393 : Aside0 (w139.heap[gb393]? = some (.cells #[.int .i64 t381, .int .i64 t382, .slice Ao81 t383.length co81, .slice Ao82 t386.length co82] 27 (0, 0))) := ⟨(by rw [hw]; exact (by (with_reducible repeat (first | refine blk_drewN ?_ _ | refine blk_drew ?_ | refine blk_alloc ?_ _)); refine blk_far ?_ NB393_409.out _; (with_reducible repeat (first | refine blk_drewN ?_ _ | refine blk_drew ?_ | refine blk_alloc ?_ _)); refine blk_far ?_ NB393_409.out _; (with_reducible repeat (first | refine blk_drewN ?_ _ | refine blk_drew ?_ | refine blk_alloc ?_ _)); refine blk_far ?_ NB393_409.out _; (with_reducible repeat (first | refine blk_drewN ?_ _ | refine blk_drew ?_ | refine blk_alloc ?_ _)); refine blk_far ?_ NB393_409.out _; (with_reducible repeat (first | refine blk_drewN ?_ _ | refine blk_drew ?_ | refine blk_alloc ?_ _)); exact BK393.out))⟩; replace BK394 : Aside0 (w139.heap[gb394]? = some (.cells #[.bool t389, .int .i64 t390, .int .i64 t391, .int .i64 t392] 32 (0, 0))) := ⟨(by rw [hw]; exact (by (with_reducible repeat (first | refine blk_drewN ?_ _ | refine blk_drew ?_ | refine blk_alloc ?_ _)); refine blk_far ?_ NB394_409.out _; (with_reducible repeat (first | refine blk_drewN ?_ _ | refine blk_drew ?_ | refine blk_alloc ?_ _)); refine blk_far ?_ NB394_409.out _; (with_reducible repeat (first | refine blk_drewN ?_ _ | refine blk_drew ?_ | refine blk_alloc ?_ _)); refine blk_far ?_ NB394_409.out _; (with_reducible repeat (first | refine blk_drewN ?_ _ | refine blk_drew ?_ | refine blk_alloc ?_ _)); refine blk_far ?_ NB394_409.out _; (with_reducible repeat (first | refine blk_drewN ?_ _ | refine blk_drew ?_ | refine blk_alloc ?_ _)); exact BK394.out))⟩; replace BK409 : Aside0 (w139.heap[gb409]? = some (.cells #[.int .i64 t397, .int .i64 t398, .slice Ao137 t399.length co137, .slice Ao138 t402.length co138] 27 (0, 0))) := ⟨(by rw [hw]; exact (by (with_reducible repeat (first | refine blk_drewN ?_ _ | refine blk_drew ?_ | refine blk_alloc ?_ _)); refine blk_put (cs := #[.int .i64 t397, .int .i64 t398, .slice Ao137 t399.length co137, .slice none 0 0]) ?_ 3 _ rfl; (with_reducible repeat (first | refine blk_drewN ?_ _ | refine blk_drew ?_ | refine blk_alloc ?_ _)); refine blk_put (cs := #[.int .i64 t397, .int .i64 t398, .slice none 0 0, .slice none 0 0]) ?_ 2 _ rfl; (with_reducible repeat (first | refine blk_drewN ?_ _ | refine blk_drew ?_ | refine blk_alloc ?_ _)); refine blk_put (cs := #[.int .i64 t397, .int .i64 0, .slice none 0 0, .slice none 0 0]) ?_ 1 _ rfl; (with_reducible repeat (first | refine blk_drewN ?_ _ | refine blk_drew ?_ | refine blk_alloc ?_ _)); refine blk_put (cs := #[.int .i64 0, .int .i64 0, .slice none 0 0, .slice none 0 0]) ?_ 0 _ rfl; (with_reducible repeat (first | refine blk_drewN ?_ _ | refine blk_drew ?_ | refine blk_alloc ?_ _)); exact BK409.out))⟩; replace BK410 : Aside0 (w139.heap[gb410]? = some (.cells #[.bool false, .int .i64 0, .int .i64 0, .int .i64 0] 32 (0, 0))) := ⟨(by rw [hw]; exact (by (with_reducible repeat (first | refine blk_drewN ?_ _ | refine blk_drew ?_ | refine blk_alloc ?_ _)); refine blk_far ?_ NB410_409.out _; (with_reducible repeat (first | refine blk_drewN ?_ _ | refine blk_drew ?_ | refine blk_alloc ?_ _)); refine blk_far ?_ NB410_409.out _; (with_reducible repeat (first | refine blk_drewN ?_ _ | refine blk_drew ?_ | refine blk_alloc ?_ _)); refine blk_far ?_ NB410_409.out _; (with_reducible repeat (first | refine blk_drewN ?_ _ | refine blk_drew ?_ | refine blk_alloc ?_ _)); refine blk_far ?_ NB410_409.out _; (with_reducible repeat (first | refine blk_drewN ?_ _ | refine blk_drew ?_ | refine blk_alloc ?_ _)); exact BK410.out))⟩; replace HB : Aside0 (Below w.heap.size w w139) := ⟨(by rw [hw]; exact (bl HB))⟩; clear hw; have hnb140 := NB410_374.out; have hnc140 := NB374_410.out; have hnb141 := NB410_375.out; have hnc141 := NB375_410.out; have hnb142 := NB410_376.out; have hnc142 := NB376_410.out; have hnb143 := NB410_393.out; have hnc143 := NB393_410.out; have hnb144 := NB410_394.out; have hnc144 := NB394_410.out; obtain ⟨hcz145_0, hcz145_1, hcz145_2, hcz145_3⟩ := ce4 BK410; obtain ⟨hfz145_0, hfz145_1, hfz145_2, hfz145_3⟩ := fr4 BK410) | ((with_reducible refine gate_store (t := 32) (p := 12) rfl ?_); refine store_event (t := 32) (p := 12) (v := ?vo_w146) (w1 := ((((w139.setCell ⟨gb410, 0, none⟩ (.bool true)).setCell ⟨gb410, 1, none⟩ (.int .i64 t406)).setCell ⟨gb410, 2, none⟩ (.int .i64 t407)).setCell ⟨gb410, 3, none⟩ (.int .i64 t408))) ?hg ?ho ?hn ?hr ?_; (case ho => rfl); (case hg => rfl); (case hn => rfl); (case hr => first | (go_simp; done) | (go_simp; rfl)); intro w146 hw; replace HO_394002 : Aside0 (Kd.V (Kd.int .i64) 3 w146 w.heap.size (fun k_ => k_ ≠ gb374 ∧ k_ ≠ gb375 ∧ k_ ≠ gb376 ∧ k_ ≠ gb393 ∧ k_ ≠ gb394 ∧ k_ ≠ gb409 ∧ k_ ≠ gb410) (.slice Ao81 t383.length co81) t383) := ⟨(by rw [hw]; exact (by (with_reducible repeat (first | apply Kd.V_alloc | apply Kd.V_drewN | apply Kd.V_drew)); exact Kd.V_mono (Kd.V_far (p := ⟨gb410, 3, none⟩) (Kd.V_far (p := ⟨gb410, 2, none⟩) (Kd.V_far (p := ⟨gb410, 1, none⟩) (Kd.V_far (p := ⟨gb410, 0, none⟩) (Kd.V_mono HO_394002.out (fun k_ hk => (⟨hk, hk.2.2.2.2.2.2⟩ : _ ∧ k_ ≠ gb410))) (fun _ hk => hk.2) (.bool true)) (fun _ hk => hk.2) (.int .i64 t406)) (fun _ hk => hk.2) (.int .i64 t407)) (fun _ hk => hk.2) (.int .i64 t408)) (fun _ hk => ⟨hk.1.1, ⟨hk.1.2.1, ⟨hk.1.2.2.1, ⟨hk.1.2.2.2.1, ⟨hk.1.2.2.2.2.1, ⟨hk.1.2.2.2.2.2.1, hk.1.2.2.2.2.2.2⟩⟩⟩⟩⟩⟩)))⟩; replace HO_394003 : Aside0 (Kd.V k54 54 w146 w.heap.size (fun k_ => k_ ≠ gb374 ∧ k_ ≠ gb375 ∧ k_ ≠ gb376 ∧ k_ ≠ gb393 ∧ k_ ≠ gb394 ∧ k_ ≠ gb409 ∧ k_ ≠ gb410) (.slice Ao82 t386.length co82) t386) := ⟨(by rw [hw]; exact (by (with_reducible repeat (first | apply Kd.V_alloc | apply Kd.V_drewN | apply Kd.V_drew)); exact Kd.V_mono (Kd.V_far (p := ⟨gb410, 3, none⟩) (Kd.V_far (p := ⟨gb410, 2, none⟩) (Kd.V_far (p := ⟨gb410, 1, none⟩) (Kd.V_far (p := ⟨gb410, 0, none⟩) (Kd.V_mono HO_394003.out (fun k_ hk => (⟨hk, hk.2.2.2.2.2.2⟩ : _ ∧ k_ ≠ gb410))) (fun _ hk => hk.2) (.bool true)) (fun _ hk => hk.2) (.int .i64 t406)) (fun _ hk => hk.2) (.int .i64 t407)) (fun _ hk => hk.2) (.int .i64 t408)) (fun _ hk => ⟨hk.1.1, ⟨hk.1.2.1, ⟨hk.1.2.2.1, ⟨hk.1.2.2.2.1, ⟨hk.1.2.2.2.2.1, ⟨hk.1.2.2.2.2.2.1, hk.1.2.2.2.2.2.2⟩⟩⟩⟩⟩⟩)))⟩; replace HO401 : Aside0 (Kd.V (Kd.int .i64) 3 w146 w.heap.size (fun k_ => k_ ≠ gb374 ∧ k_ ≠ gb375 ∧ k_ ≠ gb376 ∧ k_ ≠ gb393 ∧ k_ ≠ gb394 ∧ k_ ≠ gb409 ∧ k_ ≠ gb410) (.slice Ao137 t399.length co137) t399) := ⟨(by rw [hw]; exact (by (with_reducible repeat (first | apply Kd.V_alloc | apply Kd.V_drewN | apply Kd.V_drew)); exact Kd.V_mono (Kd.V_far (p := ⟨gb410, 3, none⟩) (Kd.V_far (p := ⟨gb410, 2, none⟩) (Kd.V_far (p := ⟨gb410, 1, none⟩) (Kd.V_far (p := ⟨gb410, 0, none⟩) (Kd.V_mono HO401.out (fun k_ hk => (⟨hk, hk.2.2.2.2.2.2⟩ : _ ∧ k_ ≠ gb410))) (fun _ hk => hk.2) (.bool true)) (fun _ hk => hk.2) (.int .i64 t406)) (fun _ hk => hk.2) (.int .i64 t407)) (fun _ hk => hk.2) (.int .i64 t408)) (fun _ hk => ⟨hk.1.1, ⟨hk.1.2.1, ⟨hk.1.2.2.1, ⟨hk.1.2.2.2.1, ⟨hk.1.2.2.2.2.1, ⟨hk.1.2.2.2.2.2.1, hk.1.2.2.2.2.2.2⟩⟩⟩⟩⟩⟩)))⟩; replace HO404 : Aside0 (Kd.V k54 54 w146 w.heap.size (fun k_ => k_ ≠ gb374 ∧ k_ ≠ gb375 ∧ k_ ≠ gb376 ∧ k_ ≠ gb393 ∧ k_ ≠ gb394 ∧ k_ ≠ gb409 ∧ k_ ≠ gb410) (.slice Ao138 t402.length co138) t402) := ⟨(by rw [hw]; exact (by (with_reducible repeat (first | apply Kd.V_alloc | apply Kd.V_drewN | apply Kd.V_drew)); exact Kd.V_mono (Kd.V_far (p := ⟨gb410, 3, none⟩) (Kd.V_far (p := ⟨gb410, 2, none⟩) (Kd.V_far (p := ⟨gb410, 1, none⟩) (Kd.V_far (p := ⟨gb410, 0, none⟩) (Kd.V_mono HO404.out (fun k_ hk => (⟨hk, hk.2.2.2.2.2.2⟩ : _ ∧ k_ ≠ gb410))) (fun _ hk => hk.2) (.bool true)) (fun _ hk => hk.2) (.int .i64 t406)) (fun _ hk => hk.2) (.int .i64 t407)) (fun _ hk => hk.2) (.int .i64 t408)) (fun _ hk => ⟨hk.1.1, ⟨hk.1.2.1, ⟨hk.1.2.2.1, ⟨hk.1.2.2.2.1, ⟨hk.1.2.2.2.2.1, ⟨hk.1.2.2.2.2.2.1, hk.1.2.2.2.2.2.2⟩⟩⟩⟩⟩⟩)))⟩; replace BK374 : Aside0 (w146.heap[gb374]? = some (.cells #[.int .i64 a0_0, .int .i64 a0_1, .int .i64 a0_2, .int .i64 a0_3] 23 (0, 0))) := ⟨(by rw [hw]; exact (by (with_reducible repeat (first | refine blk_drewN ?_ _ | refine blk_drew ?_ | refine blk_alloc ?_ _)); refine blk_far ?_ NB374_410.out _; (with_reducible repeat (first | refine blk_drewN ?_ _ | refine blk_drew ?_ | refine blk_alloc ?_ _)); refine blk_far ?_ NB374_410.out _; (with_reducible repeat (first | refine blk_drewN ?_ _ | refine blk_drew ?_ | refine blk_alloc ?_ _)); refine blk_far ?_ NB374_410.out _; (with_reducible repeat (first | refine blk_drewN ?_ _ | refine blk_drew ?_ | refine blk_alloc ?_ _)); refine blk_far ?_ NB374_410.out _; (with_reducible repeat (first | refine blk_drewN ?_ _ | refine blk_drew ?_ | refine blk_alloc ?_ _)); exact BK374.out))⟩; replace BK375 : Aside0 (w146.heap[gb375]? = some (.cells #[.int .i64 a1_0, .int .i64 a1_1, .slice A1_2 l1_2.length c1_2, .slice A1_3 l1_3.length c1_3] 27 (0, 0))) := ⟨(by rw [hw]; exact (by (with_reducible repeat (first | refine blk_drewN ?_ _ | refine blk_drew ?_ | refine blk_alloc ?_ _)); refine blk_far ?_ NB375_410.out _; (with_reducible repeat (first | refine blk_drewN ?_ _ | refine blk_drew ?_ | refine blk_alloc ?_ _)); refine blk_far ?_ NB375_410.out _; (with_reducible repeat (first | refine blk_drewN ?_ _ | refine blk_drew ?_ | refine blk_alloc ?_ _)); refine blk_far ?_ NB375_410.out _; (with_reducible repeat (first | refine blk_drewN ?_ _ | refine blk_drew ?_ | refine blk_alloc ?_ _)); refine blk_far ?_ NB375_410.out _; (with_reducible repeat (first | refine blk_drewN ?_ _ | refine blk_drew ?_ | refine blk_alloc ?_ _)); exact BK375.out))⟩; replace BK376 : Aside0 (w146.heap[gb376]? = some (.cells #[.int .i64 a2_0, .int .i64 a2_1] 28 (0, 0))) := ⟨(by rw [hw]; exact (by (with_reducible repeat (first | refine blk_drewN ?_ _ | refine blk_drew ?_ | refine blk_alloc ?_ _)); refine blk_far ?_ NB376_410.out _; (with_reducible repeat (first | refine blk_drewN ?_ _ | refine blk_drew ?_ | refine blk_alloc ?_ _)); refine blk_far ?_ NB376_410.out _; (with_reducible repeat (first | refine blk_drewN ?_ _ | refine blk_drew ?_ | refine blk_alloc ?_ _)); refine blk_far ?_ NB376_410.out _; (with_reducible repeat (first | refine blk_drewN ?_ _ | refine blk_drew ?_ | refine blk_alloc ?_ _)); refine blk_far ?_ NB376_410.out _; (with_reducible repeat (first | refine blk_drewN ?_ _ | refine blk_drew ?_ | refine blk_alloc ?_ _)); exact BK376.out))⟩; replace BK393 : Aside0 (w146.heap[gb393]? = some (.cells #[.int .i64 t381, .int .i64 t382, .slice Ao81 t383.length co81, .slice Ao82 t386.length co82] 27 (0, 0))) := ⟨(by rw [hw]; exact (by (with_reducible repeat (first | refine blk_drewN ?_ _ | refine blk_drew ?_ | refine blk_alloc ?_ _)); refine blk_far ?_ NB393_410.out _; (with_reducible repeat (first | refine blk_drewN ?_ _ | refine blk_drew ?_ | refine blk_alloc ?_ _)); refine blk_far ?_ NB393_410.out _; (with_reducible repeat (first | refine blk_drewN ?_ _ | refine blk_drew ?_ | refine blk_alloc ?_ _)); refine blk_far ?_ NB393_410.out _; (with_reducible repeat (first | refine blk_drewN ?_ _ | refine blk_drew ?_ | refine blk_alloc ?_ _)); refine blk_far ?_ NB393_410.out _; (with_reducible repeat (first | refine blk_drewN ?_ _ | refine blk_drew ?_ | refine blk_alloc ?_ _)); exact BK393.out))⟩; replace BK394 : Aside0 (w146.heap[gb394]? = some (.cells #[.bool t389, .int .i64 t390, .int .i64 t391, .int .i64 t392] 32 (0, 0))) := ⟨(by rw [hw]; exact (by (with_reducible repeat (first | refine blk_drewN ?_ _ | refine blk_drew ?_ | refine blk_alloc ?_ _)); refine blk_far ?_ NB394_410.out _; (with_reducible repeat (first | refine blk_drewN ?_ _ | refine blk_drew ?_ | refine blk_alloc ?_ _)); refine blk_far ?_ NB394_410.out _; (with_reducible repeat (first | refine blk_drewN ?_ _ | refine blk_drew ?_ | refine blk_alloc ?_ _)); refine blk_far ?_ NB394_410.out _; (with_reducible repeat (first | refine blk_drewN ?_ _ | refine blk_drew ?_ | refine blk_alloc ?_ _)); refine blk_far ?_ NB394_410.out _; (with_reducible repeat (first | refine blk_drewN ?_ _ | refine blk_drew ?_ | refine blk_alloc ?_ _)); exact BK394.out))⟩; replace BK409 : Aside0 (w146.heap[gb409]? = some (.cells #[.int .i64 t397, .int .i64 t398, .slice Ao137 t399.length co137, .slice Ao138 t402.length co138] 27 (0, 0))) := ⟨(by rw [hw]; exact (by (with_reducible repeat (first | refine blk_drewN ?_ _ | refine blk_drew ?_ | refine blk_alloc ?_ _)); refine blk_far ?_ NB409_410.out _; (with_reducible repeat (first | refine blk_drewN ?_ _ | refine blk_drew ?_ | refine blk_alloc ?_ _)); refine blk_far ?_ NB409_410.out _; (with_reducible repeat (first | refine blk_drewN ?_ _ | refine blk_drew ?_ | refine blk_alloc ?_ _)); refine blk_far ?_ NB409_410.out _; (with_reducible repeat (first | refine blk_drewN ?_ _ | refine blk_drew ?_ | refine blk_alloc ?_ _)); refine blk_far ?_ NB409_410.out _; (with_reducible repeat (first | refine blk_drewN ?_ _ | refine blk_drew ?_ | refine blk_alloc ?_ _)); exact BK409.out))⟩; replace BK410 : Aside0 (w146.heap[gb410]? = some (.cells #[.bool true, .int .i64 t406, .int .i64 t407, .int .i64 t408] 32 (0, 0))) := ⟨(by rw [hw]; exact (by (with_reducible repeat (first | refine blk_drewN ?_ _ | refine blk_drew ?_ | refine blk_alloc ?_ _)); refine blk_put (cs := #[.bool true, .int .i64 t406, .int .i64 t407, .int .i64 0]) ?_ 3 _ rfl; (with_reducible repeat (first | refine blk_drewN ?_ _ | refine blk_drew ?_ | refine blk_alloc ?_ _)); refine blk_put (cs := #[.bool true, .int .i64 t406, .int .i64 0, .int .i64 0]) ?_ 2 _ rfl; (with_reducible repeat (first | refine blk_drewN ?_ _ | refine blk_drew ?_ | refine blk_alloc ?_ _)); refine blk_put (cs := #[.bool true, .int .i64 0, .int .i64 0, .int .i64 0]) ?_ 1 _ rfl; (with_reducible repeat (first | refine blk_drewN ?_ _ | refine blk_drew ?_ | refine blk_alloc ?_ _)); refine blk_put (cs := #[.bool false, .int .i64 0, .int .i64 0, .int .i64 0]) ?_ 0 _ rfl; (with_reducible repeat (first | refine blk_drewN ?_ _ | refine blk_drew ?_ | refine blk_alloc ?_ _)); exact BK410.out))⟩; replace HB : Aside0 (Below w.heap.size w w146) := ⟨(by rw [hw]; exact (bl HB))⟩; clear hw; obtain ⟨hcz147_0, hcz147_1, hcz147_2, hcz147_3⟩ := ce4 BK410; obtain ⟨hfz147_0, hfz147_1, hfz147_2, hfz147_3⟩ := fr4 BK410))
          go_meet
          case rel => exact ⟨_, H', ⟨by have := HJ3.out; have := HJ66.out; first | omega | exact Nat.le_refl _⟩, ⟨by (with_reducible repeat (first | apply Kd.V_alloc | apply Kd.V_drewN | apply Kd.V_drew)); exact Kd.V_mono HO_394002.out (fun _ hk => ⟨hk.1, ⟨hk.2.1, ⟨hk.2.2.1, ⟨hk.2.2.2.1, hk.2.2.2.2.1⟩⟩⟩⟩)⟩, ⟨by (with_reducible repeat (first | apply Kd.V_alloc | apply Kd.V_drewN | apply Kd.V_drew)); exact Kd.V_mono HO_394003.out (fun _ hk => ⟨hk.1, ⟨hk.2.1, ⟨hk.2.2.1, ⟨hk.2.2.2.1, hk.2.2.2.2.1⟩⟩⟩⟩)⟩, ⟨bo BK374⟩, ⟨bo BK375⟩, ⟨bo BK376⟩, ⟨bo BK393⟩, ⟨bo BK394⟩, ⟨bl HB⟩⟩
         ·replace c114 := Bool.eq_false_iff.mpr c114
          subst c114
          rw [if_neg (show ¬ (false = true) by decide)] at H
          exact absurd H (by simp)
        ·rw [if_neg c112] at H
         have c112b0 : decide (0 < t390) = false := decide_eq_false c112
         clear c112
         (first | rw [c112b0] | (simp only [i64_w, i32_w]; rw [c112b0]) | skip)
         have H' := Aside0.mk H
         clear H
         go_wp2
         go_meet
         case rel => exact ⟨_, H', ⟨by have := HJ3.out; have := HJ66.out; first | omega | exact Nat.le_refl _⟩, ⟨by (with_reducible repeat (first | apply Kd.V_alloc | apply Kd.V_drewN | apply Kd.V_drew)); exact HO_394002.out⟩, ⟨by (with_reducible repeat (first | apply Kd.V_alloc | apply Kd.V_drewN | apply Kd.V_drew)); exact HO_394003.out⟩, ⟨bo BK374⟩, ⟨bo BK375⟩, ⟨bo BK376⟩, ⟨bo BK393⟩, ⟨bo BK394⟩, ⟨bl HB⟩⟩
       case rest =>
        as_aux_lemma =>
        clear HC106
        try clear c10; try clear c12; try clear c13; try clear c90; try clear c92; try clear c92b0; try clear c92b1; try clear c105; try clear c112; try clear c112b0; try clear c114; try clear hcz111_0; try clear hcz111_1; try clear hcz111_2; try clear hcz111_3; try clear hcz119_0; try clear hcz119_1; try clear hcz119_2; try clear hcz119_3; try clear hcz123_0; try clear hcz123_1; try clear hcz123_2; try clear hcz123_3; try clear hcz126_0; try clear hcz126_1; try clear hcz126_2; try clear hcz126_3; try clear hcz136_0; try clear hcz136_1; try clear hcz136_2; try clear hcz136_3; try clear hcz145_0; try clear hcz145_1; try clear hcz145_2; try clear hcz145_3; try clear hcz147_0; try clear hcz147_1; try clear hcz147_2; try clear hcz147_3; try clear hfz111_0; try clear hfz111_1; try clear hfz111_2; try clear hfz111_3; try clear hfz119_0; try clear hfz119_1; try clear hfz119_2; try clear hfz119_3; try clear hfz123_0; try clear hfz123_1; try clear hfz123_2; try clear hfz123_3; try clear hfz126_0; try clear hfz126_1; try clear hfz126_2; try clear hfz126_3; try clear hfz136_0; try clear hfz136_1; try clear hfz136_2; try clear hfz136_3; try clear hfz145_0; try clear hfz145_1; try clear hfz145_2; try clear hfz145_3; try clear hfz147_0; try clear hfz147_1; try clear hfz147_2; try clear hfz147_3
        obtain ⟨kq, HA, HJ105, HO_394002, HO_394003, BK374, BK375, BK376, BK393, BK394, HB⟩ := hcut
        cases kq with
        | zero => exact absurd HA.out (by simp [sandglasslaw12_RingMay.j2])
        | succ kj105 =>
         have H := HA.out
         clear HA
         simp only [sandglasslaw12_RingMay.j2] at H
         have HC148 := Aside0.mk H
         clear H
         go_upto_region 11 with (fail)
         go_cut [140] (fun v140 wc => ∃ (kq : Nat) (x140_147 : Bool), v140 = .bool x140_147 ∧ Aside0 (sandglasslaw12_RingMay.j3 kq a2_1 x140_147 a0_0 a0_1 a0_2 a0_3 t381 t382 t383 t386 t389 t390 t391 t392 = some r) ∧ Aside0 (kq ≤ kj105) ∧ Aside0 (Kd.V (Kd.int .i64) 3 wc w.heap.size (fun k_ => k_ ≠ gb374 ∧ k_ ≠ gb375 ∧ k_ ≠ gb376 ∧ k_ ≠ gb393 ∧ k_ ≠ gb394) (.slice Ao81 t383.length co81) t383) ∧ Aside0 (Kd.V k54 54 wc w.heap.size (fun k_ => k_ ≠ gb374 ∧ k_ ≠ gb375 ∧ k_ ≠ gb376 ∧ k_ ≠ gb393 ∧ k_ ≠ gb394) (.slice Ao82 t386.length co82) t386) ∧ Aside0 (wc.heap[gb374]? = some (.cells #[.int .i64 a0_0, .int .i64 a0_1, .int .i64 a0_2, .int .i64 a0_3] 23 (0, 0))) ∧ Aside0 (wc.heap[gb375]? = some (.cells #[.int .i64 a1_0, .int .i64 a1_1, (.slice A1_2 l1_2.length c1_2), (.slice A1_3 l1_3.length c1_3)] 27 (0, 0))) ∧ Aside0 (wc.heap[gb376]? = some (.cells #[.int .i64 a2_0, .int .i64 a2_1] 28 (0, 0))) ∧ Aside0 (wc.heap[gb393]? = some (.cells #[.int .i64 t381, .int .i64 t382, (.slice Ao81 t383.length co81), (.slice Ao82 t386.length co82)] 27 (0, 0))) ∧ Aside0 (wc.heap[gb394]? = some (.cells #[.bool t389, .int .i64 t390, .int .i64 t391, .int .i64 t392] 32 (0, 0))) ∧ Aside0 (Below w.heap.size w wc))
         case first =>
          as_aux_lemma =>
          have H := HC148.out
          clear HC148
          replace H := Option.bind_eq_some_iff.mp H
          obtain ⟨t411, A1490, H⟩ := H
          have A149 := Aside0.mk A1490
          clear A1490
          by_cases c150 : t411 = 0
          ·rw [if_pos c150] at H
           have c150b0 : (t411 == 0) = true := beq_iff_eq.mpr c150
           have c150b1 : (t411 != 0) = false := bne_eq_false_iff_eq.mpr c150
           clear c150
           (first | rw [c150b0] | (simp only [i64_w, i32_w]; rw [c150b0]) | skip)
           by_cases c151 : t392 > 0
           ·rw [if_pos c151] at H
            have c151b0 : decide (0 < t392) = true := decide_eq_true c151
            clear c151
            replace H := Option.bind_eq_some_iff.mp H
            obtain ⟨t412, A1520, H⟩ := H
            have A152 := Aside0.mk A1520
            clear A1520
            by_cases c153 : t412 = 0
            ·rw [if_pos c153] at H
             have c153b0 : (t412 == 0) = true := beq_iff_eq.mpr c153
             have c153b1 : (t412 != 0) = false := bne_eq_false_iff_eq.mpr c153
             clear c153
             have H' := Aside0.mk H
             clear H
             try go_wp2
             replace HO_394002 := Aside0.mk (Kd.V_drew HO_394002.out)
             replace HO_394003 := Aside0.mk (Kd.V_drew HO_394003.out)
             replace BK374 := Aside0.mk (blk_drew BK374.out)
             replace BK375 := Aside0.mk (blk_drew BK375.out)
             replace BK376 := Aside0.mk (blk_drew BK376.out)
             replace BK393 := Aside0.mk (blk_drew BK393.out)
             replace BK394 := Aside0.mk (blk_drew BK394.out)
             replace HB := Aside0.mk (below_drew1 HB.out)
             refine start_ (n := 37) (S := fun w' => w'.cell? ⟨gb374, 0, none⟩ = some (.int .i64 a0_0) ∧ w'.cell? ⟨gb374, 1, none⟩ = some (.int .i64 a0_1) ∧ w'.cell? ⟨gb374, 2, none⟩ = some (.int .i64 a0_2) ∧ w'.cell? ⟨gb374, 3, none⟩ = some (.int .i64 a0_3) ∧ w'.cell? ⟨gb393, 0, none⟩ = some (.int .i64 t381) ∧ w'.cell? ⟨gb393, 1, none⟩ = some (.int .i64 t382) ∧ w'.cell? ⟨gb393, 2, none⟩ = some (.slice Ao81 t383.length co81) ∧ w'.cell? ⟨gb393, 3, none⟩ = some (.slice Ao82 t386.length co82) ∧ w'.cell? ⟨gb394, 0, none⟩ = some (.bool t389) ∧ w'.cell? ⟨gb394, 1, none⟩ = some (.int .i64 t390) ∧ w'.cell? ⟨gb394, 2, none⟩ = some (.int .i64 t391) ∧ w'.cell? ⟨gb394, 3, none⟩ = some (.int .i64 t392)) (ds := []) #[false, false, false, false, false, false, false, false, false, false, false, false, false, false, false, false, false, false, false, false, false, false, false, false, false, false, false, false, false, false, false, false, false, false, false, false, false] (by kernel_rfl) rfl rfl ⟨(blk_cell BK374.out 0).trans rfl, (blk_cell BK374.out 1).trans rfl, (blk_cell BK374.out 2).trans rfl, (blk_cell BK374.out 3).trans rfl, (blk_cell BK393.out 0).trans rfl, (blk_cell BK393.out 1).trans rfl, (blk_cell BK393.out 2).trans rfl, (blk_cell BK393.out 3).trans rfl, (blk_cell BK394.out 0).trans rfl, (blk_cell BK394.out 1).trans rfl, (blk_cell BK394.out 2).trans rfl, (blk_cell BK394.out 3).trans rfl⟩ (fun hHeld => ?_); refine with_tabW sandglasslaw12_RingMay.tab11 sandglasslaw12_RingMay.bits11 (fun HT_ HW_ => ?_)
             generalize wc.drew = w154 at HO_394002 HO_394003 BK374 BK375 BK376 BK393 BK394 HB hHeld ⊢
             refine pureA 2 106 HT_ ?_
             refine pureA 4 108 HT_ ?_
             refine takeA 0 104 HT_ HW_ hHeld ?_
             refine takeA 1 105 HT_ HW_ hHeld ?_
             refine takeA 3 107 HT_ HW_ hHeld ?_
             refine takeA 5 109 HT_ HW_ hHeld ?_
             refine pureA 6 110 HT_ ?_
             refine one_ (i := 7) (N := some 111) #[true, true, true, true, true, true, true, true, false, false, false, false, false, false, false, false, false, false, false, false, false, false, false, false, false, false, false, false, false, false, false, false, false, false, false, false, false] rfl rfl (one_of HT_.out (by kernel_rfl)) (by decide) (fun K hK => ?_)
             refine goes_ Try.func15 (by kernel_rfl) rfl #[.agg #[.int .i64 a0_0, .int .i64 a0_1, .int .i64 a0_2, .int .i64 a0_3], .agg #[.int .i64 t381, .int .i64 t382, .slice Ao81 t383.length co81, .slice Ao82 t386.length co82], .int .i64 (wrap64 (t381 + t392))] (by rfl) rfl rfl (by (try simp only [List.map_toArray, List.map_cons, List.map_nil]); first | done | rfl | (simp only [List.length_drop, List.length_take]; rfl)) ?_
             with_reducible refine (ring_Total.calls kj105 a0_0 a0_1 a0_2 a0_3 t381 t382 _ _ t383 _ _ t386 (wrap64 (t381 + t392)) t411 _ ?side1 ?side2 ?side3 ?side4 A149.out).mono ?_
             (case side1 => repeat (first | exact (Kd.V_reads' HO_394002.out).2.2 | (with_reducible refine Kd.C_alloc ?_ _) | (with_reducible refine Kd.C_drewN ?_ _) | (with_reducible refine Kd.C_drew ?_)))
             (case side2 => exact (Kd.V_reads' HO_394002.out).2.1)
             (case side3 => repeat (first | exact (Kd.V_reads' HO_394003.out).2.2 | (with_reducible refine Kd.C_alloc ?_ _) | (with_reducible refine Kd.C_drewN ?_ _) | (with_reducible refine Kd.C_drew ?_)))
             (case side4 => exact (Kd.V_reads' HO_394003.out).2.1)
             rintro e w155 ⟨rfl, hb⟩
             refine ⟨_, rfl, ?_⟩
             replace HO_394002 := vb HO_394002 hb
             replace HO_394003 := vb HO_394003 hb
             replace BK374 := Aside0.mk (blk_below (bo BK374) hb)
             replace BK375 := Aside0.mk (blk_below (bo BK375) hb)
             replace BK376 := Aside0.mk (blk_below (bo BK376) hb)
             replace BK393 := Aside0.mk (blk_below (bo BK393) hb)
             replace BK394 := Aside0.mk (blk_below (bo BK394) hb)
             replace HB := Aside0.mk (below_step (bl HB) hb)
             (try clear hb)
             (try clear hb2)
             (try clear hk)
             (try clear hi)
             refine hK.out _ _ ⟨(blk_cell BK374.out 0).trans rfl, (blk_cell BK374.out 1).trans rfl, (blk_cell BK374.out 2).trans rfl, (blk_cell BK374.out 3).trans rfl, (blk_cell BK393.out 0).trans rfl, (blk_cell BK393.out 1).trans rfl, (blk_cell BK393.out 2).trans rfl, (blk_cell BK393.out 3).trans rfl, (blk_cell BK394.out 0).trans rfl, (blk_cell BK394.out 1).trans rfl, (blk_cell BK394.out 2).trans rfl, (blk_cell BK394.out 3).trans rfl⟩ (fun hHeld => ?_)
             clear hK K
             refine norm_ (a' := ?_) ?_ ?_
             rotate_left
             ·show Act.put _ (some 111) _ = _
              simp only [Act.put, List.setIfInBounds_toArray, List.set_cons_zero, List.set_cons_succ, i64_w, i32_w]
              rfl
             refine pureA 8 112 HT_ ?_
             refine pureA 9 113 HT_ ?_
             refine pureA 10 114 HT_ ?_
             refine takeA 11 115 HT_ HW_ hHeld ?_
             refine pureA 12 116 HT_ ?_
             refine pureA 13 117 HT_ ?_
             refine pureA 16 120 HT_ ?_
             refine pureA 18 122 HT_ ?_
             refine takeA 14 118 HT_ HW_ hHeld ?_
             refine takeA 15 119 HT_ HW_ hHeld ?_
             refine takeA 17 121 HT_ HW_ hHeld ?_
             refine takeA 19 123 HT_ HW_ hHeld ?_
             refine pureA 20 124 HT_ ?_
             refine pureA 21 125 HT_ ?_
             refine one_ (i := 22) (N := some 126) #[true, true, true, true, true, true, true, true, true, true, true, true, true, true, true, true, true, true, true, true, true, true, true, false, false, false, false, false, false, false, false, false, false, false, false, false, false] rfl rfl (one_of HT_.out (by kernel_rfl)) (by decide) (fun K hK => ?_)
             refine goes_ Try.func15 (by kernel_rfl) rfl #[.agg #[.int .i64 a0_0, .int .i64 a0_1, .int .i64 a0_2, .int .i64 a0_3], .agg #[.int .i64 t381, .int .i64 t382, .slice Ao81 t383.length co81, .slice Ao82 t386.length co82], .int .i64 (wrap64 ((wrap64 (t381 + t392)) - 1))] (by rfl) rfl rfl (by (try simp only [List.map_toArray, List.map_cons, List.map_nil]); first | done | rfl | (simp only [List.length_drop, List.length_take]; rfl)) ?_
             with_reducible refine (ring_Total.calls kj105 a0_0 a0_1 a0_2 a0_3 t381 t382 _ _ t383 _ _ t386 (wrap64 ((wrap64 (t381 + t392)) - 1)) t412 _ ?side1 ?side2 ?side3 ?side4 A152.out).mono ?_
             (case side1 => repeat (first | exact (Kd.V_reads' HO_394002.out).2.2 | (with_reducible refine Kd.C_alloc ?_ _) | (with_reducible refine Kd.C_drewN ?_ _) | (with_reducible refine Kd.C_drew ?_)))
             (case side2 => exact (Kd.V_reads' HO_394002.out).2.1)
             (case side3 => repeat (first | exact (Kd.V_reads' HO_394003.out).2.2 | (with_reducible refine Kd.C_alloc ?_ _) | (with_reducible refine Kd.C_drewN ?_ _) | (with_reducible refine Kd.C_drew ?_)))
             (case side4 => exact (Kd.V_reads' HO_394003.out).2.1)
             rintro e w156 ⟨rfl, hb⟩
             refine ⟨_, rfl, ?_⟩
             replace HO_394002 := vb HO_394002 hb
             replace HO_394003 := vb HO_394003 hb
             replace BK374 := Aside0.mk (blk_below (bo BK374) hb)
             replace BK375 := Aside0.mk (blk_below (bo BK375) hb)
             replace BK376 := Aside0.mk (blk_below (bo BK376) hb)
             replace BK393 := Aside0.mk (blk_below (bo BK393) hb)
             replace BK394 := Aside0.mk (blk_below (bo BK394) hb)
             replace HB := Aside0.mk (below_step (bl HB) hb)
             (try clear hb)
             (try clear hb2)
             (try clear hk)
             (try clear hi)
             refine hK.out _ _ ⟨(blk_cell BK374.out 0).trans rfl, (blk_cell BK374.out 1).trans rfl, (blk_cell BK374.out 2).trans rfl, (blk_cell BK374.out 3).trans rfl, (blk_cell BK393.out 0).trans rfl, (blk_cell BK393.out 1).trans rfl, (blk_cell BK393.out 2).trans rfl, (blk_cell BK393.out 3).trans rfl, (blk_cell BK394.out 0).trans rfl, (blk_cell BK394.out 1).trans rfl, (blk_cell BK394.out 2).trans rfl, (blk_cell BK394.out 3).trans rfl⟩ (fun hHeld => ?_)
             clear hK K
             refine norm_ (a' := ?_) ?_ ?_
             rotate_left
             ·show Act.put _ (some 126) _ = _
              simp only [Act.put, List.setIfInBounds_toArray, List.set_cons_zero, List.set_cons_succ, i64_w, i32_w]
              rfl
             refine pureA 23 127 HT_ ?_
             refine pureA 24 128 HT_ ?_
             refine pureA 25 129 HT_ ?_
             refine pureA 26 130 HT_ ?_
             refine pure_ (i := 27) (N := some 131) (v := undef) (a' := ?_) #[true, true, true, true, true, true, true, true, true, true, true, true, true, true, true, true, true, true, true, true, true, true, true, true, true, true, true, true, false, false, false, false, false, false, false, false, false] rfl rfl (any_of HT_.out (by kernel_rfl)) (fun _ _ _ h => h) (Or.inr ⟨by rfl, rfl⟩) ?_ ?_
             rotate_left
             ·simp only [Act.put, List.setIfInBounds_toArray, List.set_cons_zero, List.set_cons_succ, i64_w, i32_w]
              rfl
             refine pure_ (i := 28) (N := some 132) (v := undef) (a' := ?_) #[true, true, true, true, true, true, true, true, true, true, true, true, true, true, true, true, true, true, true, true, true, true, true, true, true, true, true, true, true, false, false, false, false, false, false, false, false] rfl rfl (any_of HT_.out (by kernel_rfl)) (fun _ _ _ h => h) (Or.inr ⟨by rfl, rfl⟩) ?_ ?_
             rotate_left
             ·simp only [Act.put, List.setIfInBounds_toArray, List.set_cons_zero, List.set_cons_succ, i64_w, i32_w]
              rfl
             refine pure_ (i := 29) (N := some 133) (v := undef) (a' := ?_) #[true, true, true, true, true, true, true, true, true, true, true, true, true, true, true, true, true, true, true, true, true, true, true, true, true, true, true, true, true, true, false, false, false, false, false, false, false] rfl rfl (any_of HT_.out (by kernel_rfl)) (fun _ _ _ h => h) (Or.inr ⟨by rfl, rfl⟩) ?_ ?_
             rotate_left
             ·simp only [Act.put, List.setIfInBounds_toArray, List.set_cons_zero, List.set_cons_succ, i64_w, i32_w]
              rfl
             refine pure_ (i := 30) (N := some 134) (v := undef) (a' := ?_) #[true, true, true, true, true, true, true, true, true, true, true, true, true, true, true, true, true, true, true, true, true, true, true, true, true, true, true, true, true, true, true, false, false, false, false, false, false] rfl rfl (any_of HT_.out (by kernel_rfl)) (fun _ _ _ h => h) (Or.inr ⟨by rfl, rfl⟩) ?_ ?_
             rotate_left
             ·simp only [Act.put, List.setIfInBounds_toArray, List.set_cons_zero, List.set_cons_succ, i64_w, i32_w]
              rfl
             refine pure_ (i := 31) (N := some 135) (v := undef) (a' := ?_) #[true, true, true, true, true, true, true, true, true, true, true, true, true, true, true, true, true, true, true, true, true, true, true, true, true, true, true, true, true, true, true, true, false, false, false, false, false] rfl rfl (any_of HT_.out (by kernel_rfl)) (fun _ _ _ h => h) (Or.inr ⟨by rfl, rfl⟩) ?_ ?_
             rotate_left
             ·simp only [Act.put, List.setIfInBounds_toArray, List.set_cons_zero, List.set_cons_succ, i64_w, i32_w]
              rfl
             refine pure_ (i := 32) (N := some 136) (v := undef) (a' := ?_) #[true, true, true, true, true, true, true, true, true, true, true, true, true, true, true, true, true, true, true, true, true, true, true, true, true, true, true, true, true, true, true, true, true, false, false, false, false] rfl rfl (any_of HT_.out (by kernel_rfl)) (fun _ _ _ h => h) (Or.inr ⟨by rfl, rfl⟩) ?_ ?_
             rotate_left
             ·simp only [Act.put, List.setIfInBounds_toArray, List.set_cons_zero, List.set_cons_succ, i64_w, i32_w]
              rfl
             refine pure_ (i := 33) (N := some 137) (v := undef) (a' := ?_) #[true, true, true, true, true, true, true, true, true, true, true, true, true, true, true, true, true, true, true, true, true, true, true, true, true, true, true, true, true, true, true, true, true, true, false, false, false] rfl rfl (any_of HT_.out (by kernel_rfl)) (fun _ _ _ h => h) (Or.inr ⟨by rfl, rfl⟩) ?_ ?_
             rotate_left
             ·simp only [Act.put, List.setIfInBounds_toArray, List.set_cons_zero, List.set_cons_succ, i64_w, i32_w]
              rfl
             refine pure_ (i := 34) (N := some 138) (v := undef) (a' := ?_) #[true, true, true, true, true, true, true, true, true, true, true, true, true, true, true, true, true, true, true, true, true, true, true, true, true, true, true, true, true, true, true, true, true, true, true, false, false] rfl rfl (any_of HT_.out (by kernel_rfl)) (fun _ _ _ h => h) (Or.inr ⟨by rfl, rfl⟩) ?_ ?_
             rotate_left
             ·simp only [Act.put, List.setIfInBounds_toArray, List.set_cons_zero, List.set_cons_succ, i64_w, i32_w]
              rfl
             refine pure_ (i := 35) (N := some 139) (v := undef) (a' := ?_) #[true, true, true, true, true, true, true, true, true, true, true, true, true, true, true, true, true, true, true, true, true, true, true, true, true, true, true, true, true, true, true, true, true, true, true, true, false] rfl rfl (any_of HT_.out (by kernel_rfl)) (fun _ _ _ h => h) (Or.inr ⟨by rfl, rfl⟩) ?_ ?_
             rotate_left
             ·simp only [Act.put, List.setIfInBounds_toArray, List.set_cons_zero, List.set_cons_succ, i64_w, i32_w]
              rfl
             refine pureA 36 140 HT_ ?_
             refine done_ (done_of HT_.out (by kernel_rfl)) ?_
             try go_wp2
             go_meet
             case rel => exact ⟨_, (true), (by first | (with_reducible rfl) | rfl | (simp; done) | (simp [*]; done)), H', ⟨by have := HJ3.out; have := HJ66.out; have := HJ105.out; first | omega | exact Nat.le_refl _⟩, ⟨by (with_reducible repeat (first | apply Kd.V_alloc | apply Kd.V_drewN | apply Kd.V_drew)); exact HO_394002.out⟩, ⟨by (with_reducible repeat (first | apply Kd.V_alloc | apply Kd.V_drewN | apply Kd.V_drew)); exact HO_394003.out⟩, ⟨bo BK374⟩, ⟨bo BK375⟩, ⟨bo BK376⟩, ⟨bo BK393⟩, ⟨bo BK394⟩, ⟨bl HB⟩⟩
            ·rw [if_neg c153] at H
             have c153b0 : (t412 == 0) = false := beq_eq_false_iff_ne.mpr c153
             have c153b1 : (t412 != 0) = true := bne_iff_ne.mpr c153
             replace H := Option.bind_eq_some_iff.mp H
             obtain ⟨t413, A1570, H⟩ := H
             have A157 := Aside0.mk A1570
             clear A1570
             have H' := Aside0.mk H
             clear H
             try go_wp2
             replace HO_394002 := Aside0.mk (Kd.V_drew HO_394002.out)
             replace HO_394003 := Aside0.mk (Kd.V_drew HO_394003.out)
             replace BK374 := Aside0.mk (blk_drew BK374.out)
             replace BK375 := Aside0.mk (blk_drew BK375.out)
             replace BK376 := Aside0.mk (blk_drew BK376.out)
             replace BK393 := Aside0.mk (blk_drew BK393.out)
             replace BK394 := Aside0.mk (blk_drew BK394.out)
             replace HB := Aside0.mk (below_drew1 HB.out)
             refine start_ (n := 37) (S := fun w' => w'.cell? ⟨gb374, 0, none⟩ = some (.int .i64 a0_0) ∧ w'.cell? ⟨gb374, 1, none⟩ = some (.int .i64 a0_1) ∧ w'.cell? ⟨gb374, 2, none⟩ = some (.int .i64 a0_2) ∧ w'.cell? ⟨gb374, 3, none⟩ = some (.int .i64 a0_3) ∧ w'.cell? ⟨gb393, 0, none⟩ = some (.int .i64 t381) ∧ w'.cell? ⟨gb393, 1, none⟩ = some (.int .i64 t382) ∧ w'.cell? ⟨gb393, 2, none⟩ = some (.slice Ao81 t383.length co81) ∧ w'.cell? ⟨gb393, 3, none⟩ = some (.slice Ao82 t386.length co82) ∧ w'.cell? ⟨gb394, 0, none⟩ = some (.bool t389) ∧ w'.cell? ⟨gb394, 1, none⟩ = some (.int .i64 t390) ∧ w'.cell? ⟨gb394, 2, none⟩ = some (.int .i64 t391) ∧ w'.cell? ⟨gb394, 3, none⟩ = some (.int .i64 t392)) (ds := []) #[false, false, false, false, false, false, false, false, false, false, false, false, false, false, false, false, false, false, false, false, false, false, false, false, false, false, false, false, false, false, false, false, false, false, false, false, false] (by kernel_rfl) rfl rfl ⟨(blk_cell BK374.out 0).trans rfl, (blk_cell BK374.out 1).trans rfl, (blk_cell BK374.out 2).trans rfl, (blk_cell BK374.out 3).trans rfl, (blk_cell BK393.out 0).trans rfl, (blk_cell BK393.out 1).trans rfl, (blk_cell BK393.out 2).trans rfl, (blk_cell BK393.out 3).trans rfl, (blk_cell BK394.out 0).trans rfl, (blk_cell BK394.out 1).trans rfl, (blk_cell BK394.out 2).trans rfl, (blk_cell BK394.out 3).trans rfl⟩ (fun hHeld => ?_); refine with_tabW sandglasslaw12_RingMay.tab11 sandglasslaw12_RingMay.bits11 (fun HT_ HW_ => ?_)
             generalize wc.drew = w158 at HO_394002 HO_394003 BK374 BK375 BK376 BK393 BK394 HB hHeld ⊢
             refine pureA 2 106 HT_ ?_
             refine pureA 4 108 HT_ ?_
             refine takeA 0 104 HT_ HW_ hHeld ?_
             refine takeA 1 105 HT_ HW_ hHeld ?_
             refine takeA 3 107 HT_ HW_ hHeld ?_
             refine takeA 5 109 HT_ HW_ hHeld ?_
             refine pureA 6 110 HT_ ?_
             refine one_ (i := 7) (N := some 111) #[true, true, true, true, true, true, true, true, false, false, false, false, false, false, false, false, false, false, false, false, false, false, false, false, false, false, false, false, false, false, false, false, false, false, false, false, false] rfl rfl (one_of HT_.out (by kernel_rfl)) (by decide) (fun K hK => ?_)
             refine goes_ Try.func15 (by kernel_rfl) rfl #[.agg #[.int .i64 a0_0, .int .i64 a0_1, .int .i64 a0_2, .int .i64 a0_3], .agg #[.int .i64 t381, .int .i64 t382, .slice Ao81 t383.length co81, .slice Ao82 t386.length co82], .int .i64 (wrap64 (t381 + t392))] (by rfl) rfl rfl (by (try simp only [List.map_toArray, List.map_cons, List.map_nil]); first | done | rfl | (simp only [List.length_drop, List.length_take]; rfl)) ?_
             with_reducible refine (ring_Total.calls kj105 a0_0 a0_1 a0_2 a0_3 t381 t382 _ _ t383 _ _ t386 (wrap64 (t381 + t392)) t411 _ ?side1 ?side2 ?side3 ?side4 A149.out).mono ?_
             (case side1 => repeat (first | exact (Kd.V_reads' HO_394002.out).2.2 | (with_reducible refine Kd.C_alloc ?_ _) | (with_reducible refine Kd.C_drewN ?_ _) | (with_reducible refine Kd.C_drew ?_)))
             (case side2 => exact (Kd.V_reads' HO_394002.out).2.1)
             (case side3 => repeat (first | exact (Kd.V_reads' HO_394003.out).2.2 | (with_reducible refine Kd.C_alloc ?_ _) | (with_reducible refine Kd.C_drewN ?_ _) | (with_reducible refine Kd.C_drew ?_)))
             (case side4 => exact (Kd.V_reads' HO_394003.out).2.1)
             rintro e w159 ⟨rfl, hb⟩
             refine ⟨_, rfl, ?_⟩
             replace HO_394002 := vb HO_394002 hb
             replace HO_394003 := vb HO_394003 hb
             replace BK374 := Aside0.mk (blk_below (bo BK374) hb)
             replace BK375 := Aside0.mk (blk_below (bo BK375) hb)
             replace BK376 := Aside0.mk (blk_below (bo BK376) hb)
             replace BK393 := Aside0.mk (blk_below (bo BK393) hb)
             replace BK394 := Aside0.mk (blk_below (bo BK394) hb)
             replace HB := Aside0.mk (below_step (bl HB) hb)
             (try clear hb)
             (try clear hb2)
             (try clear hk)
             (try clear hi)
             refine hK.out _ _ ⟨(blk_cell BK374.out 0).trans rfl, (blk_cell BK374.out 1).trans rfl, (blk_cell BK374.out 2).trans rfl, (blk_cell BK374.out 3).trans rfl, (blk_cell BK393.out 0).trans rfl, (blk_cell BK393.out 1).trans rfl, (blk_cell BK393.out 2).trans rfl, (blk_cell BK393.out 3).trans rfl, (blk_cell BK394.out 0).trans rfl, (blk_cell BK394.out 1).trans rfl, (blk_cell BK394.out 2).trans rfl, (blk_cell BK394.out 3).trans rfl⟩ (fun hHeld => ?_)
             clear hK K
             refine norm_ (a' := ?_) ?_ ?_
             rotate_left
             ·show Act.put _ (some 111) _ = _
              simp only [Act.put, List.setIfInBounds_toArray, List.set_cons_zero, List.set_cons_succ, i64_w, i32_w]
              rfl
             refine pureA 8 112 HT_ ?_
             refine pureA 9 113 HT_ ?_
             refine pureA 10 114 HT_ ?_
             refine takeA 11 115 HT_ HW_ hHeld ?_
             refine pureA 12 116 HT_ ?_
             refine pureA 13 117 HT_ ?_
             refine pureA 16 120 HT_ ?_
             refine pureA 18 122 HT_ ?_
             refine takeA 14 118 HT_ HW_ hHeld ?_
             refine takeA 15 119 HT_ HW_ hHeld ?_
             refine takeA 17 121 HT_ HW_ hHeld ?_
             refine takeA 19 123 HT_ HW_ hHeld ?_
             refine pureA 20 124 HT_ ?_
             refine pureA 21 125 HT_ ?_
             refine one_ (i := 22) (N := some 126) #[true, true, true, true, true, true, true, true, true, true, true, true, true, true, true, true, true, true, true, true, true, true, true, false, false, false, false, false, false, false, false, false, false, false, false, false, false] rfl rfl (one_of HT_.out (by kernel_rfl)) (by decide) (fun K hK => ?_)
             refine goes_ Try.func15 (by kernel_rfl) rfl #[.agg #[.int .i64 a0_0, .int .i64 a0_1, .int .i64 a0_2, .int .i64 a0_3], .agg #[.int .i64 t381, .int .i64 t382, .slice Ao81 t383.length co81, .slice Ao82 t386.length co82], .int .i64 (wrap64 ((wrap64 (t381 + t392)) - 1))] (by rfl) rfl rfl (by (try simp only [List.map_toArray, List.map_cons, List.map_nil]); first | done | rfl | (simp only [List.length_drop, List.length_take]; rfl)) ?_
             with_reducible refine (ring_Total.calls kj105 a0_0 a0_1 a0_2 a0_3 t381 t382 _ _ t383 _ _ t386 (wrap64 ((wrap64 (t381 + t392)) - 1)) t412 _ ?side1 ?side2 ?side3 ?side4 A152.out).mono ?_
             (case side1 => repeat (first | exact (Kd.V_reads' HO_394002.out).2.2 | (with_reducible refine Kd.C_alloc ?_ _) | (with_reducible refine Kd.C_drewN ?_ _) | (with_reducible refine Kd.C_drew ?_)))
             (case side2 => exact (Kd.V_reads' HO_394002.out).2.1)
             (case side3 => repeat (first | exact (Kd.V_reads' HO_394003.out).2.2 | (with_reducible refine Kd.C_alloc ?_ _) | (with_reducible refine Kd.C_drewN ?_ _) | (with_reducible refine Kd.C_drew ?_)))
             (case side4 => exact (Kd.V_reads' HO_394003.out).2.1)
             rintro e w160 ⟨rfl, hb⟩
             refine ⟨_, rfl, ?_⟩
             replace HO_394002 := vb HO_394002 hb
             replace HO_394003 := vb HO_394003 hb
             replace BK374 := Aside0.mk (blk_below (bo BK374) hb)
             replace BK375 := Aside0.mk (blk_below (bo BK375) hb)
             replace BK376 := Aside0.mk (blk_below (bo BK376) hb)
             replace BK393 := Aside0.mk (blk_below (bo BK393) hb)
             replace BK394 := Aside0.mk (blk_below (bo BK394) hb)
             replace HB := Aside0.mk (below_step (bl HB) hb)
             (try clear hb)
             (try clear hb2)
             (try clear hk)
             (try clear hi)
             refine hK.out _ _ ⟨(blk_cell BK374.out 0).trans rfl, (blk_cell BK374.out 1).trans rfl, (blk_cell BK374.out 2).trans rfl, (blk_cell BK374.out 3).trans rfl, (blk_cell BK393.out 0).trans rfl, (blk_cell BK393.out 1).trans rfl, (blk_cell BK393.out 2).trans rfl, (blk_cell BK393.out 3).trans rfl, (blk_cell BK394.out 0).trans rfl, (blk_cell BK394.out 1).trans rfl, (blk_cell BK394.out 2).trans rfl, (blk_cell BK394.out 3).trans rfl⟩ (fun hHeld => ?_)
             clear hK K
             refine norm_ (a' := ?_) ?_ ?_
             rotate_left
             ·show Act.put _ (some 126) _ = _
              simp only [Act.put, List.setIfInBounds_toArray, List.set_cons_zero, List.set_cons_succ, i64_w, i32_w]
              rfl
             refine pureA 23 127 HT_ ?_
             refine pureA 24 128 HT_ ?_
             refine pureA 25 129 HT_ ?_
             refine pureA 26 130 HT_ ?_
             refine pureA 30 134 HT_ ?_
             refine pureA 32 136 HT_ ?_
             refine takeA 27 131 HT_ HW_ hHeld ?_
             refine takeA 28 132 HT_ HW_ hHeld ?_
             refine takeA 31 135 HT_ HW_ hHeld ?_
             refine takeA 33 137 HT_ HW_ hHeld ?_
             refine pureA 34 138 HT_ ?_
             refine one_ (i := 29) (N := some 133) #[true, true, true, true, true, true, true, true, true, true, true, true, true, true, true, true, true, true, true, true, true, true, true, true, true, true, true, true, true, true, true, true, true, true, true, false, false] rfl rfl (one_of HT_.out (by kernel_rfl)) (by decide) (fun K hK => ?_)
             refine goes_ Try.func17 (by kernel_rfl) rfl #[.agg #[.int .i64 a0_0, .int .i64 a0_1, .int .i64 a0_2, .int .i64 a0_3], .agg #[.int .i64 t381, .int .i64 t382, .slice Ao81 t383.length co81, .slice Ao82 t386.length co82]] (by rfl) rfl rfl (by (try simp only [List.map_toArray, List.map_cons, List.map_nil]); first | done | rfl | (simp only [List.length_drop, List.length_take]; rfl)) ?_
             with_reducible refine (ring_Ends.calls kj105 a0_0 a0_1 a0_2 a0_3 t381 t382 _ _ t383 _ _ t386 t413 _ ?side1 ?side2 ?side3 ?side4 A157.out).mono ?_
             (case side1 => repeat (first | exact (Kd.V_reads' HO_394002.out).2.2 | (with_reducible refine Kd.C_alloc ?_ _) | (with_reducible refine Kd.C_drewN ?_ _) | (with_reducible refine Kd.C_drew ?_)))
             (case side2 => exact (Kd.V_reads' HO_394002.out).2.1)
             (case side3 => repeat (first | exact (Kd.V_reads' HO_394003.out).2.2 | (with_reducible refine Kd.C_alloc ?_ _) | (with_reducible refine Kd.C_drewN ?_ _) | (with_reducible refine Kd.C_drew ?_)))
             (case side4 => exact (Kd.V_reads' HO_394003.out).2.1)
             rintro e w161 ⟨rfl, hb⟩
             refine ⟨_, rfl, ?_⟩
             replace HO_394002 := vb HO_394002 hb
             replace HO_394003 := vb HO_394003 hb
             replace BK374 := Aside0.mk (blk_below (bo BK374) hb)
             replace BK375 := Aside0.mk (blk_below (bo BK375) hb)
             replace BK376 := Aside0.mk (blk_below (bo BK376) hb)
             replace BK393 := Aside0.mk (blk_below (bo BK393) hb)
             replace BK394 := Aside0.mk (blk_below (bo BK394) hb)
             replace HB := Aside0.mk (below_step (bl HB) hb)
             (try clear hb)
             (try clear hb2)
             (try clear hk)
             (try clear hi)
             refine hK.out _ _ ⟨(blk_cell BK374.out 0).trans rfl, (blk_cell BK374.out 1).trans rfl, (blk_cell BK374.out 2).trans rfl, (blk_cell BK374.out 3).trans rfl, (blk_cell BK393.out 0).trans rfl, (blk_cell BK393.out 1).trans rfl, (blk_cell BK393.out 2).trans rfl, (blk_cell BK393.out 3).trans rfl, (blk_cell BK394.out 0).trans rfl, (blk_cell BK394.out 1).trans rfl, (blk_cell BK394.out 2).trans rfl, (blk_cell BK394.out 3).trans rfl⟩ (fun hHeld => ?_)
             clear hK K
             refine norm_ (a' := ?_) ?_ ?_
             rotate_left
             ·show Act.put _ (some 133) _ = _
              simp only [Act.put, List.setIfInBounds_toArray, List.set_cons_zero, List.set_cons_succ, i64_w, i32_w]
              rfl
             refine pureA 35 139 HT_ ?_
             refine pureA 36 140 HT_ ?_
             refine done_ (done_of HT_.out (by kernel_rfl)) ?_
             try go_wp2
             go_meet
             case rel => exact ⟨_, ((t413 != (wrap64 (t381 + t392)))), (by first | (with_reducible rfl) | rfl | (simp; done) | (simp [*]; done)), H', ⟨by have := HJ3.out; have := HJ66.out; have := HJ105.out; first | omega | exact Nat.le_refl _⟩, ⟨by (with_reducible repeat (first | apply Kd.V_alloc | apply Kd.V_drewN | apply Kd.V_drew)); exact HO_394002.out⟩, ⟨by (with_reducible repeat (first | apply Kd.V_alloc | apply Kd.V_drewN | apply Kd.V_drew)); exact HO_394003.out⟩, ⟨bo BK374⟩, ⟨bo BK375⟩, ⟨bo BK376⟩, ⟨bo BK393⟩, ⟨bo BK394⟩, ⟨bl HB⟩⟩
           ·rw [if_neg c151] at H
            have c151b0 : decide (0 < t392) = false := decide_eq_false c151
            clear c151
            replace H := Option.bind_eq_some_iff.mp H
            obtain ⟨t414, A1620, H⟩ := H
            have A162 := Aside0.mk A1620
            clear A1620
            have H' := Aside0.mk H
            clear H
            try go_wp2
            replace HO_394002 := Aside0.mk (Kd.V_drew HO_394002.out)
            replace HO_394003 := Aside0.mk (Kd.V_drew HO_394003.out)
            replace BK374 := Aside0.mk (blk_drew BK374.out)
            replace BK375 := Aside0.mk (blk_drew BK375.out)
            replace BK376 := Aside0.mk (blk_drew BK376.out)
            replace BK393 := Aside0.mk (blk_drew BK393.out)
            replace BK394 := Aside0.mk (blk_drew BK394.out)
            replace HB := Aside0.mk (below_drew1 HB.out)
            refine start_ (n := 37) (S := fun w' => w'.cell? ⟨gb374, 0, none⟩ = some (.int .i64 a0_0) ∧ w'.cell? ⟨gb374, 1, none⟩ = some (.int .i64 a0_1) ∧ w'.cell? ⟨gb374, 2, none⟩ = some (.int .i64 a0_2) ∧ w'.cell? ⟨gb374, 3, none⟩ = some (.int .i64 a0_3) ∧ w'.cell? ⟨gb393, 0, none⟩ = some (.int .i64 t381) ∧ w'.cell? ⟨gb393, 1, none⟩ = some (.int .i64 t382) ∧ w'.cell? ⟨gb393, 2, none⟩ = some (.slice Ao81 t383.length co81) ∧ w'.cell? ⟨gb393, 3, none⟩ = some (.slice Ao82 t386.length co82) ∧ w'.cell? ⟨gb394, 0, none⟩ = some (.bool t389) ∧ w'.cell? ⟨gb394, 1, none⟩ = some (.int .i64 t390) ∧ w'.cell? ⟨gb394, 2, none⟩ = some (.int .i64 t391) ∧ w'.cell? ⟨gb394, 3, none⟩ = some (.int .i64 t392)) (ds := []) #[false, false, false, false, false, false, false, false, false, false, false, false, false, false, false, false, false, false, false, false, false, false, false, false, false, false, false, false, false, false, false, false, false, false, false, false, false] (by kernel_rfl) rfl rfl ⟨(blk_cell BK374.out 0).trans rfl, (blk_cell BK374.out 1).trans rfl, (blk_cell BK374.out 2).trans rfl, (blk_cell BK374.out 3).trans rfl, (blk_cell BK393.out 0).trans rfl, (blk_cell BK393.out 1).trans rfl, (blk_cell BK393.out 2).trans rfl, (blk_cell BK393.out 3).trans rfl, (blk_cell BK394.out 0).trans rfl, (blk_cell BK394.out 1).trans rfl, (blk_cell BK394.out 2).trans rfl, (blk_cell BK394.out 3).trans rfl⟩ (fun hHeld => ?_); refine with_tabW sandglasslaw12_RingMay.tab11 sandglasslaw12_RingMay.bits11 (fun HT_ HW_ => ?_)
            generalize wc.drew = w163 at HO_394002 HO_394003 BK374 BK375 BK376 BK393 BK394 HB hHeld ⊢
            refine pureA 2 106 HT_ ?_
            refine pureA 4 108 HT_ ?_
            refine takeA 0 104 HT_ HW_ hHeld ?_
            refine takeA 1 105 HT_ HW_ hHeld ?_
            refine takeA 3 107 HT_ HW_ hHeld ?_
            refine takeA 5 109 HT_ HW_ hHeld ?_
            refine pureA 6 110 HT_ ?_
            refine one_ (i := 7) (N := some 111) #[true, true, true, true, true, true, true, true, false, false, false, false, false, false, false, false, false, false, false, false, false, false, false, false, false, false, false, false, false, false, false, false, false, false, false, false, false] rfl rfl (one_of HT_.out (by kernel_rfl)) (by decide) (fun K hK => ?_)
            refine goes_ Try.func15 (by kernel_rfl) rfl #[.agg #[.int .i64 a0_0, .int .i64 a0_1, .int .i64 a0_2, .int .i64 a0_3], .agg #[.int .i64 t381, .int .i64 t382, .slice Ao81 t383.length co81, .slice Ao82 t386.length co82], .int .i64 (wrap64 (t381 + t392))] (by rfl) rfl rfl (by (try simp only [List.map_toArray, List.map_cons, List.map_nil]); first | done | rfl | (simp only [List.length_drop, List.length_take]; rfl)) ?_
            with_reducible refine (ring_Total.calls kj105 a0_0 a0_1 a0_2 a0_3 t381 t382 _ _ t383 _ _ t386 (wrap64 (t381 + t392)) t411 _ ?side1 ?side2 ?side3 ?side4 A149.out).mono ?_
            (case side1 => repeat (first | exact (Kd.V_reads' HO_394002.out).2.2 | (with_reducible refine Kd.C_alloc ?_ _) | (with_reducible refine Kd.C_drewN ?_ _) | (with_reducible refine Kd.C_drew ?_)))
            (case side2 => exact (Kd.V_reads' HO_394002.out).2.1)
            (case side3 => repeat (first | exact (Kd.V_reads' HO_394003.out).2.2 | (with_reducible refine Kd.C_alloc ?_ _) | (with_reducible refine Kd.C_drewN ?_ _) | (with_reducible refine Kd.C_drew ?_)))
            (case side4 => exact (Kd.V_reads' HO_394003.out).2.1)
            rintro e w164 ⟨rfl, hb⟩
            refine ⟨_, rfl, ?_⟩
            replace HO_394002 := vb HO_394002 hb
            replace HO_394003 := vb HO_394003 hb
            replace BK374 := Aside0.mk (blk_below (bo BK374) hb)
            replace BK375 := Aside0.mk (blk_below (bo BK375) hb)
            replace BK376 := Aside0.mk (blk_below (bo BK376) hb)
            replace BK393 := Aside0.mk (blk_below (bo BK393) hb)
            replace BK394 := Aside0.mk (blk_below (bo BK394) hb)
            replace HB := Aside0.mk (below_step (bl HB) hb)
            (try clear hb)
            (try clear hb2)
            (try clear hk)
            (try clear hi)
            refine hK.out _ _ ⟨(blk_cell BK374.out 0).trans rfl, (blk_cell BK374.out 1).trans rfl, (blk_cell BK374.out 2).trans rfl, (blk_cell BK374.out 3).trans rfl, (blk_cell BK393.out 0).trans rfl, (blk_cell BK393.out 1).trans rfl, (blk_cell BK393.out 2).trans rfl, (blk_cell BK393.out 3).trans rfl, (blk_cell BK394.out 0).trans rfl, (blk_cell BK394.out 1).trans rfl, (blk_cell BK394.out 2).trans rfl, (blk_cell BK394.out 3).trans rfl⟩ (fun hHeld => ?_)
            clear hK K
            refine norm_ (a' := ?_) ?_ ?_
            rotate_left
            ·show Act.put _ (some 111) _ = _
             simp only [Act.put, List.setIfInBounds_toArray, List.set_cons_zero, List.set_cons_succ, i64_w, i32_w]
             rfl
            refine pureA 8 112 HT_ ?_
            refine pureA 9 113 HT_ ?_
            refine pureA 10 114 HT_ ?_
            refine takeA 11 115 HT_ HW_ hHeld ?_
            refine pureA 12 116 HT_ ?_
            refine pureA 13 117 HT_ ?_
            refine pure_ (i := 14) (N := some 118) (v := undef) (a' := ?_) #[true, true, true, true, true, true, true, true, true, true, true, true, true, true, true, false, false, false, false, false, false, false, false, false, false, false, false, false, false, false, false, false, false, false, false, false, false] rfl rfl (any_of HT_.out (by kernel_rfl)) (fun _ _ _ h => h) (Or.inr ⟨by rfl, rfl⟩) ?_ ?_
            rotate_left
            ·simp only [Act.put, List.setIfInBounds_toArray, List.set_cons_zero, List.set_cons_succ, i64_w, i32_w]
             rfl
            refine pure_ (i := 15) (N := some 119) (v := undef) (a' := ?_) #[true, true, true, true, true, true, true, true, true, true, true, true, true, true, true, true, false, false, false, false, false, false, false, false, false, false, false, false, false, false, false, false, false, false, false, false, false] rfl rfl (any_of HT_.out (by kernel_rfl)) (fun _ _ _ h => h) (Or.inr ⟨by rfl, rfl⟩) ?_ ?_
            rotate_left
            ·simp only [Act.put, List.setIfInBounds_toArray, List.set_cons_zero, List.set_cons_succ, i64_w, i32_w]
             rfl
            refine pure_ (i := 16) (N := some 120) (v := undef) (a' := ?_) #[true, true, true, true, true, true, true, true, true, true, true, true, true, true, true, true, true, false, false, false, false, false, false, false, false, false, false, false, false, false, false, false, false, false, false, false, false] rfl rfl (any_of HT_.out (by kernel_rfl)) (fun _ _ _ h => h) (Or.inr ⟨by rfl, rfl⟩) ?_ ?_
            rotate_left
            ·simp only [Act.put, List.setIfInBounds_toArray, List.set_cons_zero, List.set_cons_succ, i64_w, i32_w]
             rfl
            refine pure_ (i := 17) (N := some 121) (v := undef) (a' := ?_) #[true, true, true, true, true, true, true, true, true, true, true, true, true, true, true, true, true, true, false, false, false, false, false, false, false, false, false, false, false, false, false, false, false, false, false, false, false] rfl rfl (any_of HT_.out (by kernel_rfl)) (fun _ _ _ h => h) (Or.inr ⟨by rfl, rfl⟩) ?_ ?_
            rotate_left
            ·simp only [Act.put, List.setIfInBounds_toArray, List.set_cons_zero, List.set_cons_succ, i64_w, i32_w]
             rfl
            refine pure_ (i := 18) (N := some 122) (v := undef) (a' := ?_) #[true, true, true, true, true, true, true, true, true, true, true, true, true, true, true, true, true, true, true, false, false, false, false, false, false, false, false, false, false, false, false, false, false, false, false, false, false] rfl rfl (any_of HT_.out (by kernel_rfl)) (fun _ _ _ h => h) (Or.inr ⟨by rfl, rfl⟩) ?_ ?_
            rotate_left
            ·simp only [Act.put, List.setIfInBounds_toArray, List.set_cons_zero, List.set_cons_succ, i64_w, i32_w]
             rfl
            refine pure_ (i := 19) (N := some 123) (v := undef) (a' := ?_) #[true, true, true, true, true, true, true, true, true, true, true, true, true, true, true, true, true, true, true, true, false, false, false, false, false, false, false, false, false, false, false, false, false, false, false, false, false] rfl rfl (any_of HT_.out (by kernel_rfl)) (fun _ _ _ h => h) (Or.inr ⟨by rfl, rfl⟩) ?_ ?_
            rotate_left
            ·simp only [Act.put, List.setIfInBounds_toArray, List.set_cons_zero, List.set_cons_succ, i64_w, i32_w]
             rfl
            refine pure_ (i := 20) (N := some 124) (v := undef) (a' := ?_) #[true, true, true, true, true, true, true, true, true, true, true, true, true, true, true, true, true, true, true, true, true, false, false, false, false, false, false, false, false, false, false, false, false, false, false, false, false] rfl rfl (any_of HT_.out (by kernel_rfl)) (fun _ _ _ h => h) (Or.inr ⟨by rfl, rfl⟩) ?_ ?_
            rotate_left
            ·simp only [Act.put, List.setIfInBounds_toArray, List.set_cons_zero, List.set_cons_succ, i64_w, i32_w]
             rfl
            refine pure_ (i := 21) (N := some 125) (v := undef) (a' := ?_) #[true, true, true, true, true, true, true, true, true, true, true, true, true, true, true, true, true, true, true, true, true, true, false, false, false, false, false, false, false, false, false, false, false, false, false, false, false] rfl rfl (any_of HT_.out (by kernel_rfl)) (fun _ _ _ h => h) (Or.inr ⟨by rfl, rfl⟩) ?_ ?_
            rotate_left
            ·simp only [Act.put, List.setIfInBounds_toArray, List.set_cons_zero, List.set_cons_succ, i64_w, i32_w]
             rfl
            refine pure_ (i := 22) (N := some 126) (v := undef) (a' := ?_) #[true, true, true, true, true, true, true, true, true, true, true, true, true, true, true, true, true, true, true, true, true, true, true, false, false, false, false, false, false, false, false, false, false, false, false, false, false] rfl rfl (any_of HT_.out (by kernel_rfl)) (fun _ _ _ h => h) (Or.inr ⟨by rfl, rfl⟩) ?_ ?_
            rotate_left
            ·simp only [Act.put, List.setIfInBounds_toArray, List.set_cons_zero, List.set_cons_succ, i64_w, i32_w]
             rfl
            refine pure_ (i := 23) (N := some 127) (v := undef) (a' := ?_) #[true, true, true, true, true, true, true, true, true, true, true, true, true, true, true, true, true, true, true, true, true, true, true, true, false, false, false, false, false, false, false, false, false, false, false, false, false] rfl rfl (any_of HT_.out (by kernel_rfl)) (fun _ _ _ h => h) (Or.inr ⟨by rfl, rfl⟩) ?_ ?_
            rotate_left
            ·simp only [Act.put, List.setIfInBounds_toArray, List.set_cons_zero, List.set_cons_succ, i64_w, i32_w]
             rfl
            refine pureA 24 128 HT_ ?_
            refine pureA 25 129 HT_ ?_
            refine pureA 26 130 HT_ ?_
            refine pureA 30 134 HT_ ?_
            refine pureA 32 136 HT_ ?_
            refine takeA 27 131 HT_ HW_ hHeld ?_
            refine takeA 28 132 HT_ HW_ hHeld ?_
            refine takeA 31 135 HT_ HW_ hHeld ?_
            refine takeA 33 137 HT_ HW_ hHeld ?_
            refine pureA 34 138 HT_ ?_
            refine one_ (i := 29) (N := some 133) #[true, true, true, true, true, true, true, true, true, true, true, true, true, true, true, true, true, true, true, true, true, true, true, true, true, true, true, true, true, true, true, true, true, true, true, false, false] rfl rfl (one_of HT_.out (by kernel_rfl)) (by decide) (fun K hK => ?_)
            refine goes_ Try.func17 (by kernel_rfl) rfl #[.agg #[.int .i64 a0_0, .int .i64 a0_1, .int .i64 a0_2, .int .i64 a0_3], .agg #[.int .i64 t381, .int .i64 t382, .slice Ao81 t383.length co81, .slice Ao82 t386.length co82]] (by rfl) rfl rfl (by (try simp only [List.map_toArray, List.map_cons, List.map_nil]); first | done | rfl | (simp only [List.length_drop, List.length_take]; rfl)) ?_
            with_reducible refine (ring_Ends.calls kj105 a0_0 a0_1 a0_2 a0_3 t381 t382 _ _ t383 _ _ t386 t414 _ ?side1 ?side2 ?side3 ?side4 A162.out).mono ?_
            (case side1 => repeat (first | exact (Kd.V_reads' HO_394002.out).2.2 | (with_reducible refine Kd.C_alloc ?_ _) | (with_reducible refine Kd.C_drewN ?_ _) | (with_reducible refine Kd.C_drew ?_)))
            (case side2 => exact (Kd.V_reads' HO_394002.out).2.1)
            (case side3 => repeat (first | exact (Kd.V_reads' HO_394003.out).2.2 | (with_reducible refine Kd.C_alloc ?_ _) | (with_reducible refine Kd.C_drewN ?_ _) | (with_reducible refine Kd.C_drew ?_)))
            (case side4 => exact (Kd.V_reads' HO_394003.out).2.1)
            rintro e w165 ⟨rfl, hb⟩
            refine ⟨_, rfl, ?_⟩
            replace HO_394002 := vb HO_394002 hb
            replace HO_394003 := vb HO_394003 hb
            replace BK374 := Aside0.mk (blk_below (bo BK374) hb)
            replace BK375 := Aside0.mk (blk_below (bo BK375) hb)
            replace BK376 := Aside0.mk (blk_below (bo BK376) hb)
            replace BK393 := Aside0.mk (blk_below (bo BK393) hb)
            replace BK394 := Aside0.mk (blk_below (bo BK394) hb)
            replace HB := Aside0.mk (below_step (bl HB) hb)
            (try clear hb)
            (try clear hb2)
            (try clear hk)
            (try clear hi)
            refine hK.out _ _ ⟨(blk_cell BK374.out 0).trans rfl, (blk_cell BK374.out 1).trans rfl, (blk_cell BK374.out 2).trans rfl, (blk_cell BK374.out 3).trans rfl, (blk_cell BK393.out 0).trans rfl, (blk_cell BK393.out 1).trans rfl, (blk_cell BK393.out 2).trans rfl, (blk_cell BK393.out 3).trans rfl, (blk_cell BK394.out 0).trans rfl, (blk_cell BK394.out 1).trans rfl, (blk_cell BK394.out 2).trans rfl, (blk_cell BK394.out 3).trans rfl⟩ (fun hHeld => ?_)
            clear hK K
            refine norm_ (a' := ?_) ?_ ?_
            rotate_left
            ·show Act.put _ (some 133) _ = _
             simp only [Act.put, List.setIfInBounds_toArray, List.set_cons_zero, List.set_cons_succ, i64_w, i32_w]
             rfl
            refine pureA 35 139 HT_ ?_
            refine pureA 36 140 HT_ ?_
            refine done_ (done_of HT_.out (by kernel_rfl)) ?_
            try go_wp2
            go_meet
            case rel => exact ⟨_, ((t414 != (wrap64 (t381 + t392)))), (by first | (with_reducible rfl) | rfl | (simp; done) | (simp [*]; done)), H', ⟨by have := HJ3.out; have := HJ66.out; have := HJ105.out; first | omega | exact Nat.le_refl _⟩, ⟨by (with_reducible repeat (first | apply Kd.V_alloc | apply Kd.V_drewN | apply Kd.V_drew)); exact HO_394002.out⟩, ⟨by (with_reducible repeat (first | apply Kd.V_alloc | apply Kd.V_drewN | apply Kd.V_drew)); exact HO_394003.out⟩, ⟨bo BK374⟩, ⟨bo BK375⟩, ⟨bo BK376⟩, ⟨bo BK393⟩, ⟨bo BK394⟩, ⟨bl HB⟩⟩
          ·rw [if_neg c150] at H
           have c150b0 : (t411 == 0) = false := beq_eq_false_iff_ne.mpr c150
           have c150b1 : (t411 != 0) = true := bne_iff_ne.mpr c150
           (first | rw [c150b0] | (simp only [i64_w, i32_w]; rw [c150b0]) | skip)
           have H' := Aside0.mk H
           clear H
           try go_wp2
           replace HO_394002 := Aside0.mk (Kd.V_drew HO_394002.out)
           replace HO_394003 := Aside0.mk (Kd.V_drew HO_394003.out)
           replace BK374 := Aside0.mk (blk_drew BK374.out)
           replace BK375 := Aside0.mk (blk_drew BK375.out)
           replace BK376 := Aside0.mk (blk_drew BK376.out)
           replace BK393 := Aside0.mk (blk_drew BK393.out)
           replace BK394 := Aside0.mk (blk_drew BK394.out)
           replace HB := Aside0.mk (below_drew1 HB.out)
           refine start_ (n := 37) (S := fun w' => w'.cell? ⟨gb374, 0, none⟩ = some (.int .i64 a0_0) ∧ w'.cell? ⟨gb374, 1, none⟩ = some (.int .i64 a0_1) ∧ w'.cell? ⟨gb374, 2, none⟩ = some (.int .i64 a0_2) ∧ w'.cell? ⟨gb374, 3, none⟩ = some (.int .i64 a0_3) ∧ w'.cell? ⟨gb393, 0, none⟩ = some (.int .i64 t381) ∧ w'.cell? ⟨gb393, 1, none⟩ = some (.int .i64 t382) ∧ w'.cell? ⟨gb393, 2, none⟩ = some (.slice Ao81 t383.length co81) ∧ w'.cell? ⟨gb393, 3, none⟩ = some (.slice Ao82 t386.length co82) ∧ w'.cell? ⟨gb394, 0, none⟩ = some (.bool t389) ∧ w'.cell? ⟨gb394, 1, none⟩ = some (.int .i64 t390) ∧ w'.cell? ⟨gb394, 2, none⟩ = some (.int .i64 t391) ∧ w'.cell? ⟨gb394, 3, none⟩ = some (.int .i64 t392)) (ds := []) #[false, false, false, false, false, false, false, false, false, false, false, false, false, false, false, false, false, false, false, false, false, false, false, false, false, false, false, false, false, false, false, false, false, false, false, false, false] (by kernel_rfl) rfl rfl ⟨(blk_cell BK374.out 0).trans rfl, (blk_cell BK374.out 1).trans rfl, (blk_cell BK374.out 2).trans rfl, (blk_cell BK374.out 3).trans rfl, (blk_cell BK393.out 0).trans rfl, (blk_cell BK393.out 1).trans rfl, (blk_cell BK393.out 2).trans rfl, (blk_cell BK393.out 3).trans rfl, (blk_cell BK394.out 0).trans rfl, (blk_cell BK394.out 1).trans rfl, (blk_cell BK394.out 2).trans rfl, (blk_cell BK394.out 3).trans rfl⟩ (fun hHeld => ?_); refine with_tabW sandglasslaw12_RingMay.tab11 sandglasslaw12_RingMay.bits11 (fun HT_ HW_ => ?_)
           generalize wc.drew = w166 at HO_394002 HO_394003 BK374 BK375 BK376 BK393 BK394 HB hHeld ⊢
           refine pureA 2 106 HT_ ?_
           refine pureA 4 108 HT_ ?_
           refine takeA 0 104 HT_ HW_ hHeld ?_
           refine takeA 1 105 HT_ HW_ hHeld ?_
           refine takeA 3 107 HT_ HW_ hHeld ?_
           refine takeA 5 109 HT_ HW_ hHeld ?_
           refine pureA 6 110 HT_ ?_
           refine one_ (i := 7) (N := some 111) #[true, true, true, true, true, true, true, true, false, false, false, false, false, false, false, false, false, false, false, false, false, false, false, false, false, false, false, false, false, false, false, false, false, false, false, false, false] rfl rfl (one_of HT_.out (by kernel_rfl)) (by decide) (fun K hK => ?_)
           refine goes_ Try.func15 (by kernel_rfl) rfl #[.agg #[.int .i64 a0_0, .int .i64 a0_1, .int .i64 a0_2, .int .i64 a0_3], .agg #[.int .i64 t381, .int .i64 t382, .slice Ao81 t383.length co81, .slice Ao82 t386.length co82], .int .i64 (wrap64 (t381 + t392))] (by rfl) rfl rfl (by (try simp only [List.map_toArray, List.map_cons, List.map_nil]); first | done | rfl | (simp only [List.length_drop, List.length_take]; rfl)) ?_
           with_reducible refine (ring_Total.calls kj105 a0_0 a0_1 a0_2 a0_3 t381 t382 _ _ t383 _ _ t386 (wrap64 (t381 + t392)) t411 _ ?side1 ?side2 ?side3 ?side4 A149.out).mono ?_
           (case side1 => repeat (first | exact (Kd.V_reads' HO_394002.out).2.2 | (with_reducible refine Kd.C_alloc ?_ _) | (with_reducible refine Kd.C_drewN ?_ _) | (with_reducible refine Kd.C_drew ?_)))
           (case side2 => exact (Kd.V_reads' HO_394002.out).2.1)
           (case side3 => repeat (first | exact (Kd.V_reads' HO_394003.out).2.2 | (with_reducible refine Kd.C_alloc ?_ _) | (with_reducible refine Kd.C_drewN ?_ _) | (with_reducible refine Kd.C_drew ?_)))
           (case side4 => exact (Kd.V_reads' HO_394003.out).2.1)
           rintro e w167 ⟨rfl, hb⟩
           refine ⟨_, rfl, ?_⟩
           replace HO_394002 := vb HO_394002 hb
           replace HO_394003 := vb HO_394003 hb
           replace BK374 := Aside0.mk (blk_below (bo BK374) hb)
           replace BK375 := Aside0.mk (blk_below (bo BK375) hb)
           replace BK376 := Aside0.mk (blk_below (bo BK376) hb)
           replace BK393 := Aside0.mk (blk_below (bo BK393) hb)
           replace BK394 := Aside0.mk (blk_below (bo BK394) hb)
           replace HB := Aside0.mk (below_step (bl HB) hb)
           (try clear hb)
           (try clear hb2)
           (try clear hk)
           (try clear hi)
           refine hK.out _ _ ⟨(blk_cell BK374.out 0).trans rfl, (blk_cell BK374.out 1).trans rfl, (blk_cell BK374.out 2).trans rfl, (blk_cell BK374.out 3).trans rfl, (blk_cell BK393.out 0).trans rfl, (blk_cell BK393.out 1).trans rfl, (blk_cell BK393.out 2).trans rfl, (blk_cell BK393.out 3).trans rfl, (blk_cell BK394.out 0).trans rfl, (blk_cell BK394.out 1).trans rfl, (blk_cell BK394.out 2).trans rfl, (blk_cell BK394.out 3).trans rfl⟩ (fun hHeld => ?_)
           clear hK K
           refine norm_ (a' := ?_) ?_ ?_
           rotate_left
           ·show Act.put _ (some 111) _ = _
            simp only [Act.put, List.setIfInBounds_toArray, List.set_cons_zero, List.set_cons_succ, i64_w, i32_w]
            rfl
           refine pureA 8 112 HT_ ?_
           refine pureA 9 113 HT_ ?_
           refine pure_ (i := 10) (N := some 114) (v := undef) (a' := ?_) #[true, true, true, true, true, true, true, true, true, true, true, false, false, false, false, false, false, false, false, false, false, false, false, false, false, false, false, false, false, false, false, false, false, false, false, false, false] rfl rfl (any_of HT_.out (by kernel_rfl)) (fun _ _ _ h => h) (Or.inr ⟨by rfl, rfl⟩) ?_ ?_
           rotate_left
           ·simp only [Act.put, List.setIfInBounds_toArray, List.set_cons_zero, List.set_cons_succ, i64_w, i32_w]
            rfl
           refine pure_ (i := 11) (N := some 115) (v := undef) (a' := ?_) #[true, true, true, true, true, true, true, true, true, true, true, true, false, false, false, false, false, false, false, false, false, false, false, false, false, false, false, false, false, false, false, false, false, false, false, false, false] rfl rfl (any_of HT_.out (by kernel_rfl)) (fun _ _ _ h => h) (Or.inr ⟨by rfl, rfl⟩) ?_ ?_
           rotate_left
           ·simp only [Act.put, List.setIfInBounds_toArray, List.set_cons_zero, List.set_cons_succ, i64_w, i32_w]
            rfl
           refine pure_ (i := 12) (N := some 116) (v := undef) (a' := ?_) #[true, true, true, true, true, true, true, true, true, true, true, true, true, false, false, false, false, false, false, false, false, false, false, false, false, false, false, false, false, false, false, false, false, false, false, false, false] rfl rfl (any_of HT_.out (by kernel_rfl)) (fun _ _ _ h => h) (Or.inr ⟨by rfl, rfl⟩) ?_ ?_
           rotate_left
           ·simp only [Act.put, List.setIfInBounds_toArray, List.set_cons_zero, List.set_cons_succ, i64_w, i32_w]
            rfl
           refine pure_ (i := 13) (N := some 117) (v := undef) (a' := ?_) #[true, true, true, true, true, true, true, true, true, true, true, true, true, true, false, false, false, false, false, false, false, false, false, false, false, false, false, false, false, false, false, false, false, false, false, false, false] rfl rfl (any_of HT_.out (by kernel_rfl)) (fun _ _ _ h => h) (Or.inr ⟨by rfl, rfl⟩) ?_ ?_
           rotate_left
           ·simp only [Act.put, List.setIfInBounds_toArray, List.set_cons_zero, List.set_cons_succ, i64_w, i32_w]
            rfl
           refine pure_ (i := 14) (N := some 118) (v := undef) (a' := ?_) #[true, true, true, true, true, true, true, true, true, true, true, true, true, true, true, false, false, false, false, false, false, false, false, false, false, false, false, false, false, false, false, false, false, false, false, false, false] rfl rfl (any_of HT_.out (by kernel_rfl)) (fun _ _ _ h => h) (Or.inr ⟨by rfl, rfl⟩) ?_ ?_
           rotate_left
           ·simp only [Act.put, List.setIfInBounds_toArray, List.set_cons_zero, List.set_cons_succ, i64_w, i32_w]
            rfl
           refine pure_ (i := 15) (N := some 119) (v := undef) (a' := ?_) #[true, true, true, true, true, true, true, true, true, true, true, true, true, true, true, true, false, false, false, false, false, false, false, false, false, false, false, false, false, false, false, false, false, false, false, false, false] rfl rfl (any_of HT_.out (by kernel_rfl)) (fun _ _ _ h => h) (Or.inr ⟨by rfl, rfl⟩) ?_ ?_
           rotate_left
           ·simp only [Act.put, List.setIfInBounds_toArray, List.set_cons_zero, List.set_cons_succ, i64_w, i32_w]
            rfl
           refine pure_ (i := 16) (N := some 120) (v := undef) (a' := ?_) #[true, true, true, true, true, true, true, true, true, true, true, true, true, true, true, true, true, false, false, false, false, false, false, false, false, false, false, false, false, false, false, false, false, false, false, false, false] rfl rfl (any_of HT_.out (by kernel_rfl)) (fun _ _ _ h => h) (Or.inr ⟨by rfl, rfl⟩) ?_ ?_
           rotate_left
           ·simp only [Act.put, List.setIfInBounds_toArray, List.set_cons_zero, List.set_cons_succ, i64_w, i32_w]
            rfl
           refine pure_ (i := 17) (N := some 121) (v := undef) (a' := ?_) #[true, true, true, true, true, true, true, true, true, true, true, true, true, true, true, true, true, true, false, false, false, false, false, false, false, false, false, false, false, false, false, false, false, false, false, false, false] rfl rfl (any_of HT_.out (by kernel_rfl)) (fun _ _ _ h => h) (Or.inr ⟨by rfl, rfl⟩) ?_ ?_
           rotate_left
           ·simp only [Act.put, List.setIfInBounds_toArray, List.set_cons_zero, List.set_cons_succ, i64_w, i32_w]
            rfl
           refine pure_ (i := 18) (N := some 122) (v := undef) (a' := ?_) #[true, true, true, true, true, true, true, true, true, true, true, true, true, true, true, true, true, true, true, false, false, false, false, false, false, false, false, false, false, false, false, false, false, false, false, false, false] rfl rfl (any_of HT_.out (by kernel_rfl)) (fun _ _ _ h => h) (Or.inr ⟨by rfl, rfl⟩) ?_ ?_
           rotate_left
           ·simp only [Act.put, List.setIfInBounds_toArray, List.set_cons_zero, List.set_cons_succ, i64_w, i32_w]
            rfl
           refine pure_ (i := 19) (N := some 123) (v := undef) (a' := ?_) #[true, true, true, true, true, true, true, true, true, true, true, true, true, true, true, true, true, true, true, true, false, false, false, false, false, false, false, false, false, false, false, false, false, false, false, false, false] rfl rfl (any_of HT_.out (by kernel_rfl)) (fun _ _ _ h => h) (Or.inr ⟨by rfl, rfl⟩) ?_ ?_
           rotate_left
           ·simp only [Act.put, List.setIfInBounds_toArray, List.set_cons_zero, List.set_cons_succ, i64_w, i32_w]
            rfl
           refine pure_ (i := 20) (N := some 124) (v := undef) (a' := ?_) #[true, true, true, true, true, true, true, true, true, true, true, true, true, true, true, true, true, true, true, true, true, false, false, false, false, false, false, false, false, false, false, false, false, false, false, false, false] rfl rfl (any_of HT_.out (by kernel_rfl)) (fun _ _ _ h => h) (Or.inr ⟨by rfl, rfl⟩) ?_ ?_
           rotate_left
           ·simp only [Act.put, List.setIfInBounds_toArray, List.set_cons_zero, List.set_cons_succ, i64_w, i32_w]
            rfl
           refine pure_ (i := 21) (N := some 125) (v := undef) (a' := ?_) #[true, true, true, true, true, true, true, true, true, true, true, true, true, true, true, true, true, true, true, true, true, true, false, false, false, false, false, false, false, false, false, false, false, false, false, false, false] rfl rfl (any_of HT_.out (by kernel_rfl)) (fun _ _ _ h => h) (Or.inr ⟨by rfl, rfl⟩) ?_ ?_
           rotate_left
           ·simp only [Act.put, List.setIfInBounds_toArray, List.set_cons_zero, List.set_cons_succ, i64_w, i32_w]
            rfl
           refine pure_ (i := 22) (N := some 126) (v := undef) (a' := ?_) #[true, true, true, true, true, true, true, true, true, true, true, true, true, true, true, true, true, true, true, true, true, true, true, false, false, false, false, false, false, false, false, false, false, false, false, false, false] rfl rfl (any_of HT_.out (by kernel_rfl)) (fun _ _ _ h => h) (Or.inr ⟨by rfl, rfl⟩) ?_ ?_
           rotate_left
           ·simp only [Act.put, List.setIfInBounds_toArray, List.set_cons_zero, List.set_cons_succ, i64_w, i32_w]
            rfl
           refine pure_ (i := 23) (N := some 127) (v := undef) (a' := ?_) #[true, true, true, true, true, true, true, true, true, true, true, true, true, true, true, true, true, true, true, true, true, true, true, true, false, false, false, false, false, false, false, false, false, false, false, false, false] rfl rfl (any_of HT_.out (by kernel_rfl)) (fun _ _ _ h => h) (Or.inr ⟨by rfl, rfl⟩) ?_ ?_
           rotate_left
           ·simp only [Act.put, List.setIfInBounds_toArray, List.set_cons_zero, List.set_cons_succ, i64_w, i32_w]
            rfl
           refine pure_ (i := 24) (N := some 128) (v := undef) (a' := ?_) #[true, true, true, true, true, true, true, true, true, true, true, true, true, true, true, true, true, true, true, true, true, true, true, true, true, false, false, false, false, false, false, false, false, false, false, false, false] rfl rfl (any_of HT_.out (by kernel_rfl)) (fun _ _ _ h => h) (Or.inr ⟨by rfl, rfl⟩) ?_ ?_
           rotate_left
           ·simp only [Act.put, List.setIfInBounds_toArray, List.set_cons_zero, List.set_cons_succ, i64_w, i32_w]
            rfl
           refine pureA 25 129 HT_ ?_
           refine pureA 26 130 HT_ ?_
           refine pure_ (i := 27) (N := some 131) (v := undef) (a' := ?_) #[true, true, true, true, true, true, true, true, true, true, true, true, true, true, true, true, true, true, true, true, true, true, true, true, true, true, true, true, false, false, false, false, false, false, false, false, false] rfl rfl (any_of HT_.out (by kernel_rfl)) (fun _ _ _ h => h) (Or.inr ⟨by rfl, rfl⟩) ?_ ?_
           rotate_left
           ·simp only [Act.put, List.setIfInBounds_toArray, List.set_cons_zero, List.set_cons_succ, i64_w, i32_w]
            rfl
           refine pure_ (i := 28) (N := some 132) (v := undef) (a' := ?_) #[true, true, true, true, true, true, true, true, true, true, true, true, true, true, true, true, true, true, true, true, true, true, true, true, true, true, true, true, true, false, false, false, false, false, false, false, false] rfl rfl (any_of HT_.out (by kernel_rfl)) (fun _ _ _ h => h) (Or.inr ⟨by rfl, rfl⟩) ?_ ?_
           rotate_left
           ·simp only [Act.put, List.setIfInBounds_toArray, List.set_cons_zero, List.set_cons_succ, i64_w, i32_w]
            rfl
           refine pure_ (i := 29) (N := some 133) (v := undef) (a' := ?_) #[true, true, true, true, true, true, true, true, true, true, true, true, true, true, true, true, true, true, true, true, true, true, true, true, true, true, true, true, true, true, false, false, false, false, false, false, false] rfl rfl (any_of HT_.out (by kernel_rfl)) (fun _ _ _ h => h) (Or.inr ⟨by rfl, rfl⟩) ?_ ?_
           rotate_left
           ·simp only [Act.put, List.setIfInBounds_toArray, List.set_cons_zero, List.set_cons_succ, i64_w, i32_w]
            rfl
           refine pure_ (i := 30) (N := some 134) (v := undef) (a' := ?_) #[true, true, true, true, true, true, true, true, true, true, true, true, true, true, true, true, true, true, true, true, true, true, true, true, true, true, true, true, true, true, true, false, false, false, false, false, false] rfl rfl (any_of HT_.out (by kernel_rfl)) (fun _ _ _ h => h) (Or.inr ⟨by rfl, rfl⟩) ?_ ?_
           rotate_left
           ·simp only [Act.put, List.setIfInBounds_toArray, List.set_cons_zero, List.set_cons_succ, i64_w, i32_w]
            rfl
           refine pure_ (i := 31) (N := some 135) (v := undef) (a' := ?_) #[true, true, true, true, true, true, true, true, true, true, true, true, true, true, true, true, true, true, true, true, true, true, true, true, true, true, true, true, true, true, true, true, false, false, false, false, false] rfl rfl (any_of HT_.out (by kernel_rfl)) (fun _ _ _ h => h) (Or.inr ⟨by rfl, rfl⟩) ?_ ?_
           rotate_left
           ·simp only [Act.put, List.setIfInBounds_toArray, List.set_cons_zero, List.set_cons_succ, i64_w, i32_w]
            rfl
           refine pure_ (i := 32) (N := some 136) (v := undef) (a' := ?_) #[true, true, true, true, true, true, true, true, true, true, true, true, true, true, true, true, true, true, true, true, true, true, true, true, true, true, true, true, true, true, true, true, true, false, false, false, false] rfl rfl (any_of HT_.out (by kernel_rfl)) (fun _ _ _ h => h) (Or.inr ⟨by rfl, rfl⟩) ?_ ?_
           rotate_left
           ·simp only [Act.put, List.setIfInBounds_toArray, List.set_cons_zero, List.set_cons_succ, i64_w, i32_w]
            rfl
           refine pure_ (i := 33) (N := some 137) (v := undef) (a' := ?_) #[true, true, true, true, true, true, true, true, true, true, true, true, true, true, true, true, true, true, true, true, true, true, true, true, true, true, true, true, true, true, true, true, true, true, false, false, false] rfl rfl (any_of HT_.out (by kernel_rfl)) (fun _ _ _ h => h) (Or.inr ⟨by rfl, rfl⟩) ?_ ?_
           rotate_left
           ·simp only [Act.put, List.setIfInBounds_toArray, List.set_cons_zero, List.set_cons_succ, i64_w, i32_w]
            rfl
           refine pure_ (i := 34) (N := some 138) (v := undef) (a' := ?_) #[true, true, true, true, true, true, true, true, true, true, true, true, true, true, true, true, true, true, true, true, true, true, true, true, true, true, true, true, true, true, true, true, true, true, true, false, false] rfl rfl (any_of HT_.out (by kernel_rfl)) (fun _ _ _ h => h) (Or.inr ⟨by rfl, rfl⟩) ?_ ?_
           rotate_left
           ·simp only [Act.put, List.setIfInBounds_toArray, List.set_cons_zero, List.set_cons_succ, i64_w, i32_w]
            rfl
           refine pure_ (i := 35) (N := some 139) (v := undef) (a' := ?_) #[true, true, true, true, true, true, true, true, true, true, true, true, true, true, true, true, true, true, true, true, true, true, true, true, true, true, true, true, true, true, true, true, true, true, true, true, false] rfl rfl (any_of HT_.out (by kernel_rfl)) (fun _ _ _ h => h) (Or.inr ⟨by rfl, rfl⟩) ?_ ?_
           rotate_left
           ·simp only [Act.put, List.setIfInBounds_toArray, List.set_cons_zero, List.set_cons_succ, i64_w, i32_w]
            rfl
           refine pureA 36 140 HT_ ?_
           refine done_ (done_of HT_.out (by kernel_rfl)) ?_
           try go_wp2
           go_meet
           case rel => exact ⟨_, (true), (by first | (with_reducible rfl) | rfl | (simp; done) | (simp [*]; done)), H', ⟨by have := HJ3.out; have := HJ66.out; have := HJ105.out; first | omega | exact Nat.le_refl _⟩, ⟨by (with_reducible repeat (first | apply Kd.V_alloc | apply Kd.V_drewN | apply Kd.V_drew)); exact HO_394002.out⟩, ⟨by (with_reducible repeat (first | apply Kd.V_alloc | apply Kd.V_drewN | apply Kd.V_drew)); exact HO_394003.out⟩, ⟨bo BK374⟩, ⟨bo BK375⟩, ⟨bo BK376⟩, ⟨bo BK393⟩, ⟨bo BK394⟩, ⟨bl HB⟩⟩
         case rest =>
          as_aux_lemma =>
          clear HC148
          try clear c150; try clear c150b0; try clear c150b1
          obtain ⟨kq, x140_147, rfl, HA, HJ147, HO_394002, HO_394003, BK374, BK375, BK376, BK393, BK394, HB⟩ := hcut
          cases kq with
          | zero => exact absurd HA.out (by simp [sandglasslaw12_RingMay.j3])
          | succ kj147 =>
           have H := HA.out
           clear HA
           simp only [sandglasslaw12_RingMay.j3] at H
           by_cases c168 : x140_147 = true
           ·subst c168
            rw [if_pos rfl] at H
            exact absurd H (by simp)
           ·replace c168 := Bool.eq_false_iff.mpr c168
            subst c168
            rw [if_neg (show ¬ (false = true) by decide)] at H
            by_cases c169 : t389 = true
            ·subst c169
             rw [if_pos rfl] at H
             by_cases c170 : t391 = 0
             ·rw [if_pos c170] at H
              have c170b0 : (t391 == 0) = true := beq_iff_eq.mpr c170
              have c170b1 : (t391 != 0) = false := bne_eq_false_iff_eq.mpr c170
              clear c170
              replace H := Option.bind_eq_some_iff.mp H
              obtain ⟨t415, A1710, H⟩ := H
              have A171 := Aside0.mk A1710
              clear A1710
              obtain rfl := Option.some.inj H
              have hnb172 := NB394_374.out
              have hnc172 := NB374_394.out
              have hnb173 := NB394_375.out
              have hnc173 := NB375_394.out
              have hnb174 := NB394_376.out
              have hnc174 := NB376_394.out
              have hnb175 := NB394_393.out
              have hnc175 := NB393_394.out
              obtain ⟨hcz176_0, hcz176_1, hcz176_2, hcz176_3⟩ := ce4 BK394
              obtain ⟨hfz176_0, hfz176_1, hfz176_2, hfz176_3⟩ := fr4 BK394
              go_wp2_with (first | (go_at_call 9; (with_reducible refine (sandglasslaw12_live.calls kj147  t415 _ A171.out).mono ?_); rintro e w177 ⟨rfl, hb⟩; replace HO_394002 := vb HO_394002 hb; replace HO_394003 := vb HO_394003 hb; replace BK374 := Aside0.mk (blk_below (bo BK374) hb); replace BK375 := Aside0.mk (blk_below (bo BK375) hb); replace BK376 := Aside0.mk (blk_below (bo BK376) hb); replace BK393 := Aside0.mk (blk_below (bo BK393) hb); replace BK394 := Aside0.mk (blk_below (bo BK394) hb); replace HB := Aside0.mk (below_step (bl HB) hb); (try clear hb); (try clear hb2); (try clear hk); (try clear hi)))
              go_ret
              exact ⟨by first | (with_reducible rfl) | rfl | (simp [errW_none, errW_some] <;> rfl) | (simp [*, errW_none, errW_some] <;> rfl), bl HB⟩
             ·rw [if_neg c170] at H
              exact absurd H (by simp)
            ·replace c169 := Bool.eq_false_iff.mpr c169
             subst c169
             rw [if_neg (show ¬ (false = true) by decide)] at H
             by_cases c178 : a2_1 > a0_1
             ·rw [if_pos c178] at H
              have c178b0 : decide (a0_1 < a2_1) = true := decide_eq_true c178
              clear c178
              by_cases c179 : t391 = 2199023255552
              ·rw [if_pos c179] at H
               have c179b0 : (t391 == 2199023255552) = true := beq_iff_eq.mpr c179
               have c179b1 : (t391 != 2199023255552) = false := bne_eq_false_iff_eq.mpr c179
               clear c179
               replace H := Option.bind_eq_some_iff.mp H
               obtain ⟨t416, A1800, H⟩ := H
               have A180 := Aside0.mk A1800
               clear A1800
               obtain rfl := Option.some.inj H
               have hnb181 := NB394_374.out
               have hnc181 := NB374_394.out
               have hnb182 := NB394_375.out
               have hnc182 := NB375_394.out
               have hnb183 := NB394_376.out
               have hnc183 := NB376_394.out
               have hnb184 := NB394_393.out
               have hnc184 := NB393_394.out
               obtain ⟨hcz185_0, hcz185_1, hcz185_2, hcz185_3⟩ := ce4 BK394
               obtain ⟨hfz185_0, hfz185_1, hfz185_2, hfz185_3⟩ := fr4 BK394
               have hnb186 := NB374_375.out
               have hnc186 := NB375_374.out
               have hnb187 := NB374_376.out
               have hnc187 := NB376_374.out
               have hnb188 := NB374_393.out
               have hnc188 := NB393_374.out
               obtain ⟨hcz189_0, hcz189_1, hcz189_2, hcz189_3⟩ := ce4 BK374
               obtain ⟨hfz189_0, hfz189_1, hfz189_2, hfz189_3⟩ := fr4 BK374
               go_wp2_with (first | (go_at_call 9; (with_reducible refine (sandglasslaw12_live.calls kj147  t416 _ A180.out).mono ?_); rintro e w190 ⟨rfl, hb⟩; replace HO_394002 := vb HO_394002 hb; replace HO_394003 := vb HO_394003 hb; replace BK374 := Aside0.mk (blk_below (bo BK374) hb); replace BK375 := Aside0.mk (blk_below (bo BK375) hb); replace BK376 := Aside0.mk (blk_below (bo BK376) hb); replace BK393 := Aside0.mk (blk_below (bo BK393) hb); replace BK394 := Aside0.mk (blk_below (bo BK394) hb); replace HB := Aside0.mk (below_step (bl HB) hb); (try clear hb); (try clear hb2); (try clear hk); (try clear hi)))
               go_ret
               exact ⟨by first | (with_reducible rfl) | rfl | (simp [errW_none, errW_some] <;> rfl) | (simp [*, errW_none, errW_some] <;> rfl), bl HB⟩
              ·rw [if_neg c179] at H
               exact absurd H (by simp)
             ·rw [if_neg c178] at H
              have c178b0 : decide (a0_1 < a2_1) = false := decide_eq_false c178
              clear c178
              replace H := Option.bind_eq_some_iff.mp H
              obtain ⟨⟨t417, t418, t419, t422, t425, t426, t427, t428⟩, A1910, H⟩ := H
              have A191 := Aside0.mk A1910
              clear A1910
              replace H := Option.bind_eq_some_iff.mp H
              obtain ⟨⟨t431, t432, t433, t436, t439, t440, t441, t442⟩, A1920, H⟩ := H
              have A192 := Aside0.mk A1920
              clear A1920
              by_cases c193 : t391 > 0
              ·rw [if_pos c193] at H
               have c193b0 : decide (0 < t391) = true := decide_eq_true c193
               clear c193
               by_cases c194 : t425 = true
               ·subst c194
                rw [if_pos rfl] at H
                by_cases c195 : t439 = true
                ·subst c195
                 rw [if_pos rfl] at H
                 exact absurd H (by simp)
                ·replace c195 := Bool.eq_false_iff.mpr c195
                 subst c195
                 rw [if_neg (show ¬ (false = true) by decide)] at H
                 replace H := Option.bind_eq_some_iff.mp H
                 obtain ⟨t445, A1960, H⟩ := H
                 have A196 := Aside0.mk A1960
                 clear A1960
                 obtain rfl := Option.some.inj H
                 have hnb197 := NB394_374.out
                 have hnc197 := NB374_394.out
                 have hnb198 := NB394_375.out
                 have hnc198 := NB375_394.out
                 have hnb199 := NB394_376.out
                 have hnc199 := NB376_394.out
                 have hnb200 := NB394_393.out
                 have hnc200 := NB393_394.out
                 obtain ⟨hcz201_0, hcz201_1, hcz201_2, hcz201_3⟩ := ce4 BK394
                 obtain ⟨hfz201_0, hfz201_1, hfz201_2, hfz201_3⟩ := fr4 BK394
                 have hnb202 := NB374_375.out
                 have hnc202 := NB375_374.out
                 have hnb203 := NB374_376.out
                 have hnc203 := NB376_374.out
                 have hnb204 := NB374_393.out
                 have hnc204 := NB393_374.out
                 obtain ⟨hcz205_0, hcz205_1, hcz205_2, hcz205_3⟩ := ce4 BK374
                 obtain ⟨hfz205_0, hfz205_1, hfz205_2, hfz205_3⟩ := fr4 BK374
                 have hnb206 := NB393_375.out
                 have hnc206 := NB375_393.out
                 have hnb207 := NB393_376.out
                 have hnc207 := NB376_393.out
                 obtain ⟨hcz208_0, hcz208_1, hcz208_2, hcz208_3⟩ := ce4 BK393
                 obtain ⟨hfz208_0, hfz208_1, hfz208_2, hfz208_3⟩ := fr4 BK393
                 go_wp2_with (first | ((with_reducible refine gate_callee (f := 10) rfl ?_); refine goesL_ (some 168) rfl rfl Try.func10 (by kernel_rfl) rfl #[.agg #[.int .i64 a0_0, .int .i64 a0_1, .int .i64 a0_2, .int .i64 a0_3], .agg #[.int .i64 t381, .int .i64 t382, .slice Ao81 t383.length co81, .slice Ao82 t386.length co82], .int .i64 (wrap64 (t381 + t391)), .int .i64 a2_1] rfl (by (try simp only [List.map_toArray, List.map_cons, List.map_nil]); first | done | rfl | (simp only [List.length_drop, List.length_take]; rfl)) ?_; (with_reducible refine (ring_Ask.calls kj147 a0_0 a0_1 a0_2 a0_3 t381 t382 (fun k_ => (k_ ≠ gb374 ∧ (k_ ≠ gb375 ∧ (k_ ≠ gb376 ∧ (k_ ≠ gb393 ∧ k_ ≠ gb394))))) _ _ t383 (fun k_ => (k_ ≠ gb374 ∧ (k_ ≠ gb375 ∧ (k_ ≠ gb376 ∧ (k_ ≠ gb393 ∧ k_ ≠ gb394))))) _ _ t386 (wrap64 (t381 + t391)) a2_1 t417 t418 t419 t422 true t426 t427 t428 _ ?side1 ?side2 A191.out).mono ?_); (case side1 => exact HO_394002.out); (case side2 => exact HO_394003.out); rintro e w209 ⟨v420, v423, rfl, ho0, ho1, hb⟩; refine ⟨_, rfl, ?_⟩; have HO421 := Aside0.mk (Kd.V_lower (Kd.V_mono (ok' := fun k_ => k_ ≠ gb374 ∧ k_ ≠ gb375 ∧ k_ ≠ gb376 ∧ k_ ≠ gb393 ∧ k_ ≠ gb394) ho0 (fun k_ hk_ => ⟨Or.elim hk_ (fun hs_ => Or.elim hs_ (fun hs_ => hs_.1) (fun hs_ => hs_.1)) (fun hn_ => (Kd.freshB (bo BK374) k_ hn_)), Or.elim hk_ (fun hs_ => Or.elim hs_ (fun hs_ => hs_.2.1) (fun hs_ => hs_.2.1)) (fun hn_ => (Kd.freshB (bo BK375) k_ hn_)), Or.elim hk_ (fun hs_ => Or.elim hs_ (fun hs_ => hs_.2.2.1) (fun hs_ => hs_.2.2.1)) (fun hn_ => (Kd.freshB (bo BK376) k_ hn_)), Or.elim hk_ (fun hs_ => Or.elim hs_ (fun hs_ => hs_.2.2.2.1) (fun hs_ => hs_.2.2.2.1)) (fun hn_ => (Kd.freshB (bo BK393) k_ hn_)), Or.elim hk_ (fun hs_ => Or.elim hs_ (fun hs_ => hs_.2.2.2.2) (fun hs_ => hs_.2.2.2.2)) (fun hn_ => (Kd.freshB (bo BK394) k_ hn_))⟩)) (below_size (bl HB))); have HO424 := Aside0.mk (Kd.V_lower (Kd.V_mono (ok' := fun k_ => k_ ≠ gb374 ∧ k_ ≠ gb375 ∧ k_ ≠ gb376 ∧ k_ ≠ gb393 ∧ k_ ≠ gb394) ho1 (fun k_ hk_ => ⟨Or.elim hk_ (fun hs_ => Or.elim hs_ (fun hs_ => hs_.1) (fun hs_ => hs_.1)) (fun hn_ => (Kd.freshB (bo BK374) k_ hn_)), Or.elim hk_ (fun hs_ => Or.elim hs_ (fun hs_ => hs_.2.1) (fun hs_ => hs_.2.1)) (fun hn_ => (Kd.freshB (bo BK375) k_ hn_)), Or.elim hk_ (fun hs_ => Or.elim hs_ (fun hs_ => hs_.2.2.1) (fun hs_ => hs_.2.2.1)) (fun hn_ => (Kd.freshB (bo BK376) k_ hn_)), Or.elim hk_ (fun hs_ => Or.elim hs_ (fun hs_ => hs_.2.2.2.1) (fun hs_ => hs_.2.2.2.1)) (fun hn_ => (Kd.freshB (bo BK393) k_ hn_)), Or.elim hk_ (fun hs_ => Or.elim hs_ (fun hs_ => hs_.2.2.2.2) (fun hs_ => hs_.2.2.2.2)) (fun hn_ => (Kd.freshB (bo BK394) k_ hn_))⟩)) (below_size (bl HB))); replace HO_394002 := vb HO_394002 hb; replace HO_394003 := vb HO_394003 hb; replace BK374 := Aside0.mk (blk_below (bo BK374) hb); replace BK375 := Aside0.mk (blk_below (bo BK375) hb); replace BK376 := Aside0.mk (blk_below (bo BK376) hb); replace BK393 := Aside0.mk (blk_below (bo BK393) hb); replace BK394 := Aside0.mk (blk_below (bo BK394) hb); replace HB := Aside0.mk (below_step (bl HB) hb); (try clear hb); (try clear hb2); (try clear hk); (try clear hi); (try clear ho0); (try clear ho1)) | ((with_reducible refine gate_dst (N := 13) rfl ?_); (try (refine gate_guard (by rfl) ?_; dsimp only)); refine box_event ?hg (N := 13) ?hd (cs := #[.int .i64 0, .int .i64 0, .slice none 0 0, .slice none 0 0]) (t := 27) ?hr ?_; (case hd => rfl); (case hg => rfl); (case hr => first | (go_simp; done) | (go_simp; rfl)); intro gb429 hg w210 hbox hb; have BK429 := Aside0.mk (hbox); have GW429 := Aside0.mk ((by rw [hg]; exact (below_size (bl HB)) : w.heap.size ≤ gb429)); have GE429 := Aside0.mk ((by rw [hg]; exact (below_size (bl HB)) : w.heap.size ≤ gb429)); have NB374_429 := nb BK374 hg; have NB429_374 := bn BK374 hg; have NB375_429 := nb BK375 hg; have NB429_375 := bn BK375 hg; have NB376_429 := nb BK376 hg; have NB429_376 := bn BK376 hg; have NB393_429 := nb BK393 hg; have NB429_393 := bn BK393 hg; have NB394_429 := nb BK394 hg; have NB429_394 := bn BK394 hg; replace HO_394002 := ve HO_394002 hg hb; replace HO_394003 := ve HO_394003 hg hb; replace HO421 := ve HO421 hg hb; replace HO424 := ve HO424 hg hb; replace BK374 := Aside0.mk (blk_below (bo BK374) hb); replace BK375 := Aside0.mk (blk_below (bo BK375) hb); replace BK376 := Aside0.mk (blk_below (bo BK376) hb); replace BK393 := Aside0.mk (blk_below (bo BK393) hb); replace BK394 := Aside0.mk (blk_below (bo BK394) hb); replace HB := Aside0.mk (below_step (bl HB) hb); clear hb hbox hg) | ((with_reducible refine gate_dst (N := 14) rfl ?_); (try (refine gate_guard (by rfl) ?_; dsimp only)); refine box_event ?hg (N := 14) ?hd (cs := #[.bool false, .int .i64 0, .int .i64 0, .int .i64 0]) (t := 32) ?hr ?_; (case hd => rfl); (case hg => rfl); (case hr => first | (go_simp; done) | (go_simp; rfl)); intro gb430 hg w211 hbox hb; have BK430 := Aside0.mk (hbox); have GW430 := Aside0.mk ((by rw [hg]; exact (below_size (bl HB)) : w.heap.size ≤ gb430)); have GE430 := Aside0.mk ((by rw [hg]; exact (below_size (bl HB)) : w.heap.size ≤ gb430)); have NB374_430 := nb BK374 hg; have NB430_374 := bn BK374 hg; have NB375_430 := nb BK375 hg; have NB430_375 := bn BK375 hg; have NB376_430 := nb BK376 hg; have NB430_376 := bn BK376 hg; have NB393_430 := nb BK393 hg; have NB430_393 := bn BK393 hg; have NB394_430 := nb BK394 hg; have NB430_394 := bn BK394 hg; have NB429_430 := nb BK429 hg; have NB430_429 := bn BK429 hg; replace HO_394002 := ve HO_394002 hg hb; replace HO_394003 := ve HO_394003 hg hb; replace HO421 := ve HO421 hg hb; replace HO424 := ve HO424 hg hb; replace BK374 := Aside0.mk (blk_below (bo BK374) hb); replace BK375 := Aside0.mk (blk_below (bo BK375) hb); replace BK376 := Aside0.mk (blk_below (bo BK376) hb); replace BK393 := Aside0.mk (blk_below (bo BK393) hb); replace BK394 := Aside0.mk (blk_below (bo BK394) hb); replace BK429 := Aside0.mk (blk_below (bo BK429) hb); replace HB := Aside0.mk (below_step (bl HB) hb); clear hb hbox hg; have hnb212 := NB429_374.out; have hnc212 := NB374_429.out; have hnb213 := NB429_375.out; have hnc213 := NB375_429.out; have hnb214 := NB429_376.out; have hnc214 := NB376_429.out; have hnb215 := NB429_393.out; have hnc215 := NB393_429.out; have hnb216 := NB429_394.out; have hnc216 := NB394_429.out; have hnb217 := NB429_430.out; have hnc217 := NB430_429.out; obtain ⟨hcz218_0, hcz218_1, hcz218_2, hcz218_3⟩ := ce4 BK429; obtain ⟨hfz218_0, hfz218_1, hfz218_2, hfz218_3⟩ := fr4 BK429; obtain ⟨Ao219, co219, eo219⟩ := Kd.V_slice HO421.out; subst eo219; obtain ⟨Ao220, co220, eo220⟩ := Kd.V_slice HO424.out; subst eo220) | ((with_reducible refine gate_store (t := 27) (p := 13) rfl ?_); refine store_event (t := 27) (p := 13) (v := ?vo_w221) (w1 := ((((w211.setCell ⟨gb429, 0, none⟩ (.int .i64 t417)).setCell ⟨gb429, 1, none⟩ (.int .i64 t418)).setCell ⟨gb429, 2, none⟩ (.slice Ao219 t419.length co219)).setCell ⟨gb429, 3, none⟩ (.slice Ao220 t422.length co220))) ?hg ?ho ?hn ?hr ?_; (case ho => rfl); (case hg => rfl); (case hn => rfl); (case hr => first | (go_simp; done) | (go_simp; rfl)); intro w221 hw; replace HO_394002 : Aside0 (Kd.V (Kd.int .i64) 3 w221 w.heap.size (fun k_ => k_ ≠ gb374 ∧ k_ ≠ gb375 ∧ k_ ≠ gb376 ∧ k_ ≠ gb393 ∧ k_ ≠ gb394 ∧ k_ ≠ gb429 ∧ k_ ≠ gb430) (.slice Ao81 t383.length co81) t383) := ⟨(by rw [hw]; exact (by (with_reducible repeat (first | apply Kd.V_alloc | apply Kd.V_drewN | apply Kd.V_drew)); exact Kd.V_mono (Kd.V_far (p := ⟨gb429, 3, none⟩) (Kd.V_far (p := ⟨gb429, 2, none⟩) (Kd.V_far (p := ⟨gb429, 1, none⟩) (Kd.V_far (p := ⟨gb429, 0, none⟩) (Kd.V_mono HO_394002.out (fun k_ hk => (⟨hk, hk.1.2⟩ : _ ∧ k_ ≠ gb429))) (fun _ hk => hk.2) (.int .i64 t417)) (fun _ hk => hk.2) (.int .i64 t418)) (fun _ hk => hk.2) (.slice Ao219 t419.length co219)) (fun _ hk => hk.2) (.slice Ao220 t422.length co220)) (fun _ hk => ⟨hk.1.1.1.1, ⟨hk.1.1.1.2.1, ⟨hk.1.1.1.2.2.1, ⟨hk.1.1.1.2.2.2.1, ⟨hk.1.1.1.2.2.2.2, ⟨hk.1.1.2, hk.1.2⟩⟩⟩⟩⟩⟩)))⟩; replace HO_394003 : Aside0 (Kd.V k54 54 w221 w.heap.size (fun k_ => k_ ≠ gb374 ∧ k_ ≠ gb375 ∧ k_ ≠ gb376 ∧ k_ ≠ gb393 ∧ k_ ≠ gb394 ∧ k_ ≠ gb429 ∧ k_ ≠ gb430) (.slice Ao82 t386.length co82) t386) := ⟨(by rw [hw]; exact (by (with_reducible repeat (first | apply Kd.V_alloc | apply Kd.V_drewN | apply Kd.V_drew)); exact Kd.V_mono (Kd.V_far (p := ⟨gb429, 3, none⟩) (Kd.V_far (p := ⟨gb429, 2, none⟩) (Kd.V_far (p := ⟨gb429, 1, none⟩) (Kd.V_far (p := ⟨gb429, 0, none⟩) (Kd.V_mono HO_394003.out (fun k_ hk => (⟨hk, hk.1.2⟩ : _ ∧ k_ ≠ gb429))) (fun _ hk => hk.2) (.int .i64 t417)) (fun _ hk => hk.2) (.int .i64 t418)) (fun _ hk => hk.2) (.slice Ao219 t419.length co219)) (fun _ hk => hk.2) (.slice Ao220 t422.length co220)) (fun _ hk => ⟨hk.1.1.1.1, ⟨hk.1.1.1.2.1, ⟨hk.1.1.1.2.2.1, ⟨hk.1.1.1.2.2.2.1, ⟨hk.1.1.1.2.2.2.2, ⟨hk.1.1.2, hk.1.2⟩⟩⟩⟩⟩⟩)))⟩; replace HO421 : Aside0 (Kd.V (Kd.int .i64) 3 w221 w.heap.size (fun k_ => k_ ≠ gb374 ∧ k_ ≠ gb375 ∧ k_ ≠ gb376 ∧ k_ ≠ gb393 ∧ k_ ≠ gb394 ∧ k_ ≠ gb429 ∧ k_ ≠ gb430) (.slice Ao219 t419.length co219) t419) := ⟨(by rw [hw]; exact (by (with_reducible repeat (first | apply Kd.V_alloc | apply Kd.V_drewN | apply Kd.V_drew)); exact Kd.V_mono (Kd.V_far (p := ⟨gb429, 3, none⟩) (Kd.V_far (p := ⟨gb429, 2, none⟩) (Kd.V_far (p := ⟨gb429, 1, none⟩) (Kd.V_far (p := ⟨gb429, 0, none⟩) (Kd.V_mono HO421.out (fun k_ hk => (⟨hk, hk.1.2⟩ : _ ∧ k_ ≠ gb429))) (fun _ hk => hk.2) (.int .i64 t417)) (fun _ hk => hk.2) (.int .i64 t418)) (fun _ hk => hk.2) (.slice Ao219 t419.length co219)) (fun _ hk => hk.2) (.slice Ao220 t422.length co220)) (fun _ hk => ⟨hk.1.1.1.1, ⟨hk.1.1.1.2.1, ⟨hk.1.1.1.2.2.1, ⟨hk.1.1.1.2.2.2.1, ⟨hk.1.1.1.2.2.2.2, ⟨hk.1.1.2, hk.1.2⟩⟩⟩⟩⟩⟩)))⟩; replace HO424 : Aside0 (Kd.V k54 54 w221 w.heap.size (fun k_ => k_ ≠ gb374 ∧ k_ ≠ gb375 ∧ k_ ≠ gb376 ∧ k_ ≠ gb393 ∧ k_ ≠ gb394 ∧ k_ ≠ gb429 ∧ k_ ≠ gb430) (.slice Ao220 t422.length co220) t422) := ⟨(by rw [hw]; exact (by (with_reducible repeat (first | apply Kd.V_alloc | apply Kd.V_drewN | apply Kd.V_drew)); exact Kd.V_mono (Kd.V_far (p := ⟨gb429, 3, none⟩) (Kd.V_far (p := ⟨gb429, 2, none⟩) (Kd.V_far (p := ⟨gb429, 1, none⟩) (Kd.V_far (p := ⟨gb429, 0, none⟩) (Kd.V_mono HO424.out (fun k_ hk => (⟨hk, hk.1.2⟩ : _ ∧ k_ ≠ gb429))) (fun _ hk => hk.2) (.int .i64 t417)) (fun _ hk => hk.2) (.int .i64 t418)) (fun _ hk => hk.2) (.slice Ao219 t419.length co219)) (fun _ hk => hk.2) (.slice Ao220 t422.length co220)) (fun _ hk => ⟨hk.1.1.1.1, ⟨hk.1.1.1.2.1, ⟨hk.1.1.1.2.2.1, ⟨hk.1.1.1.2.2.2.1, ⟨hk.1.1.1.2.2.2.2, ⟨hk.1.1.2, hk.1.2⟩⟩⟩⟩⟩⟩)))⟩; replace BK374 : Aside0 (w221.heap[gb374]? = some (.cells #[.int .i64 a0_0, .int .i64 a0_1, .int .i64 a0_2, .int .i64 a0_3] 23 (0, 0))) := ⟨(by rw [hw]; exact (by (with_reducible repeat (first | refine blk_drewN ?_ _ | refine blk_drew ?_ | refine blk_alloc ?_ _)); refine blk_far ?_ NB374_429.out _; (with_reducible repeat (first | refine blk_drewN ?_ _ | refine blk_drew ?_ | refine blk_alloc ?_ _)); refine blk_far ?_ NB374_429.out _; (with_reducible repeat (first | refine blk_drewN ?_ _ | refine blk_drew ?_ | refine blk_alloc ?_ _)); refine blk_far ?_ NB374_429.out _; (with_reducible repeat (first | refine blk_drewN ?_ _ | refine blk_drew ?_ | refine blk_alloc ?_ _)); refine blk_far ?_ NB374_429.out _; (with_reducible repeat (first | refine blk_drewN ?_ _ | refine blk_drew ?_ | refine blk_alloc ?_ _)); exact BK374.out))⟩; replace BK375 : Aside0 (w221.heap[gb375]? = some (.cells #[.int .i64 a1_0, .int .i64 a1_1, .slice A1_2 l1_2.length c1_2, .slice A1_3 l1_3.length c1_3] 27 (0, 0))) := ⟨(by rw [hw]; exact (by (with_reducible repeat (first | refine blk_drewN ?_ _ | refine blk_drew ?_ | refine blk_alloc ?_ _)); refine blk_far ?_ NB375_429.out _; (with_reducible repeat (first | refine blk_drewN ?_ _ | refine blk_drew ?_ | refine blk_alloc ?_ _)); refine blk_far ?_ NB375_429.out _; (with_reducible repeat (first | refine blk_drewN ?_ _ | refine blk_drew ?_ | refine blk_alloc ?_ _)); refine blk_far ?_ NB375_429.out _; (with_reducible repeat (first | refine blk_drewN ?_ _ | refine blk_drew ?_ | refine blk_alloc ?_ _)); refine blk_far ?_ NB375_429.out _; (with_reducible repeat (first | refine blk_drewN ?_ _ | refine blk_drew ?_ | refine blk_alloc ?_ _)); exact BK375.out))⟩; replace BK376 : Aside0 (w221.heap[gb376]? = some (.cells #[.int .i64 a2_0, .int .i64 a2_1] 28 (0, 0))) := ⟨(by rw [hw]; exact (by (with_reducible repeat (first | refine blk_drewN ?_ _ | refine blk_drew ?_ | refine blk_alloc ?_ _)); refine blk_far ?_ NB376_429.out _; (with_reducible repeat (first | refine blk_drewN ?_ _ | refine blk_drew ?_ | refine blk_alloc ?_ _)); refine blk_far ?_ NB376_429.out _; (with_reducible repeat (first | refine blk_drewN ?_ _ | refine blk_drew ?_ | refine blk_alloc ?_ _)); refine blk_far ?_ NB376_429.out _; (with_reducible repeat (first | refine blk_drewN ?_ _ | refine blk_drew ?_ | refine blk_alloc ?_ _)); refine blk_far ?_ NB376_429.out _; (with_reducible repeat (first | refine blk_drewN ?_ _ | refine blk_drew ?_ | refine blk_alloc ?_ _)); exact BK376.out))⟩; replace BK393 : Aside0 (w221.heap[gb393]? = some (.cells #[.int .i64 t381, .int .i64 t382, .slice Ao81 t383.length co81, .slice Ao82 t386.length co82] 27 (0, 0))) := ⟨(by rw [hw]; exact (by (with_reducible repeat (first | refine blk_drewN ?_ _ | refine blk_drew ?_ | refine blk_alloc ?_ _)); refine blk_far ?_ NB393_429.out _; (with_reducible repeat (first | refine blk_drewN ?_ _ | refine blk_drew ?_ | refine blk_alloc ?_ _)); refine blk_far ?_ NB393_429.out _; (with_reducible repeat (first | refine blk_drewN ?_ _ | refine blk_drew ?_ | refine blk_alloc ?_ _)); refine blk_far ?_ NB393_429.out _; (with_reducible repeat (first | refine blk_drewN ?_ _ | refine blk_drew ?_ | refine blk_alloc ?_ _)); refine blk_far ?_ NB393_429.out _; (with_reducible repeat (first | refine blk_drewN ?_ _ | refine blk_drew ?_ | refine blk_alloc ?_ _)); exact BK393.out))⟩; replace BK394 : Aside0 (w221.heap[gb394]? = some (.cells #[.bool false, .int .i64 t390, .int .i64 t391, .int .i64 t392] 32 (0, 0))) := ⟨(by rw [hw]; exact (by (with_reducible repeat (first | refine blk_drewN ?_ _ | refine blk_drew ?_ | refine blk_alloc ?_ _)); refine blk_far ?_ NB394_429.out _; (with_reducible repeat (first | refine blk_drewN ?_ _ | refine blk_drew ?_ | refine blk_alloc ?_ _)); refine blk_far ?_ NB394_429.out _; (with_reducible repeat (first | refine blk_drewN ?_ _ | refine blk_drew ?_ | refine blk_alloc ?_ _)); refine blk_far ?_ NB394_429.out _; (with_reducible repeat (first | refine blk_drewN ?_ _ | refine blk_drew ?_ | refine blk_alloc ?_ _)); refine blk_far ?_ NB394_429.out _; (with_reducible repeat (first | refine blk_drewN ?_ _ | refine blk_drew ?_ | refine blk_alloc ?_ _)); exact BK394.out))⟩; replace BK429 : Aside0 (w221.heap[gb429]? = some (.cells #[.int .i64 t417, .int .i64 t418, .slice Ao219 t419.length co219, .slice Ao220 t422.length co220] 27 (0, 0))) := ⟨(by rw [hw]; exact (by (with_reducible repeat (first | refine blk_drewN ?_ _ | refine blk_drew ?_ | refine blk_alloc ?_ _)); refine blk_put (cs := #[.int .i64 t417, .int .i64 t418, .slice Ao219 t419.length co219, .slice none 0 0]) ?_ 3 _ rfl; (with_reducible repeat (first | refine blk_drewN ?_ _ | refine blk_drew ?_ | refine blk_alloc ?_ _)); refine blk_put (cs := #[.int .i64 t417, .int .i64 t418, .slice none 0 0, .slice none 0 0]) ?_ 2 _ rfl; (with_reducible repeat (first | refine blk_drewN ?_ _ | refine blk_drew ?_ | refine blk_alloc ?_ _)); refine blk_put (cs := #[.int .i64 t417, .int .i64 0, .slice none 0 0, .slice none 0 0]) ?_ 1 _ rfl; (with_reducible repeat (first | refine blk_drewN ?_ _ | refine blk_drew ?_ | refine blk_alloc ?_ _)); refine blk_put (cs := #[.int .i64 0, .int .i64 0, .slice none 0 0, .slice none 0 0]) ?_ 0 _ rfl; (with_reducible repeat (first | refine blk_drewN ?_ _ | refine blk_drew ?_ | refine blk_alloc ?_ _)); exact BK429.out))⟩; replace BK430 : Aside0 (w221.heap[gb430]? = some (.cells #[.bool false, .int .i64 0, .int .i64 0, .int .i64 0] 32 (0, 0))) := ⟨(by rw [hw]; exact (by (with_reducible repeat (first | refine blk_drewN ?_ _ | refine blk_drew ?_ | refine blk_alloc ?_ _)); refine blk_far ?_ NB430_429.out _; (with_reducible repeat (first | refine blk_drewN ?_ _ | refine blk_drew ?_ | refine blk_alloc ?_ _)); refine blk_far ?_ NB430_429.out _; (with_reducible repeat (first | refine blk_drewN ?_ _ | refine blk_drew ?_ | refine blk_alloc ?_ _)); refine blk_far ?_ NB430_429.out _; (with_reducible repeat (first | refine blk_drewN ?_ _ | refine blk_drew ?_ | refine blk_alloc ?_ _)); refine blk_far ?_ NB430_429.out _; (with_reducible repeat (first | refine blk_drewN ?_ _ | refine blk_drew ?_ | refine blk_alloc ?_ _)); exact BK430.out))⟩; replace HB : Aside0 (Below w.heap.size w w221) := ⟨(by rw [hw]; exact (bl HB))⟩; clear hw; have hnb222 := NB430_374.out; have hnc222 := NB374_430.out; have hnb223 := NB430_375.out; have hnc223 := NB375_430.out; have hnb224 := NB430_376.out; have hnc224 := NB376_430.out; have hnb225 := NB430_393.out; have hnc225 := NB393_430.out; have hnb226 := NB430_394.out; have hnc226 := NB394_430.out; obtain ⟨hcz227_0, hcz227_1, hcz227_2, hcz227_3⟩ := ce4 BK430; obtain ⟨hfz227_0, hfz227_1, hfz227_2, hfz227_3⟩ := fr4 BK430) | ((with_reducible refine gate_store (t := 32) (p := 14) rfl ?_); refine store_event (t := 32) (p := 14) (v := ?vo_w228) (w1 := ((((w221.setCell ⟨gb430, 0, none⟩ (.bool true)).setCell ⟨gb430, 1, none⟩ (.int .i64 t426)).setCell ⟨gb430, 2, none⟩ (.int .i64 t427)).setCell ⟨gb430, 3, none⟩ (.int .i64 t428))) ?hg ?ho ?hn ?hr ?_; (case ho => rfl); (case hg => rfl); (case hn => rfl); (case hr => first | (go_simp; done) | (go_simp; rfl)); intro w228 hw; replace HO_394002 : Aside0 (Kd.V (Kd.int .i64) 3 w228 w.heap.size (fun k_ => k_ ≠ gb374 ∧ k_ ≠ gb375 ∧ k_ ≠ gb376 ∧ k_ ≠ gb393 ∧ k_ ≠ gb394 ∧ k_ ≠ gb429 ∧ k_ ≠ gb430) (.slice Ao81 t383.length co81) t383) := ⟨(by rw [hw]; exact (by (with_reducible repeat (first | apply Kd.V_alloc | apply Kd.V_drewN | apply Kd.V_drew)); exact Kd.V_mono (Kd.V_far (p := ⟨gb430, 3, none⟩) (Kd.V_far (p := ⟨gb430, 2, none⟩) (Kd.V_far (p := ⟨gb430, 1, none⟩) (Kd.V_far (p := ⟨gb430, 0, none⟩) (Kd.V_mono HO_394002.out (fun k_ hk => (⟨hk, hk.2.2.2.2.2.2⟩ : _ ∧ k_ ≠ gb430))) (fun _ hk => hk.2) (.bool true)) (fun _ hk => hk.2) (.int .i64 t426)) (fun _ hk => hk.2) (.int .i64 t427)) (fun _ hk => hk.2) (.int .i64 t428)) (fun _ hk => ⟨hk.1.1, ⟨hk.1.2.1, ⟨hk.1.2.2.1, ⟨hk.1.2.2.2.1, ⟨hk.1.2.2.2.2.1, ⟨hk.1.2.2.2.2.2.1, hk.1.2.2.2.2.2.2⟩⟩⟩⟩⟩⟩)))⟩; replace HO_394003 : Aside0 (Kd.V k54 54 w228 w.heap.size (fun k_ => k_ ≠ gb374 ∧ k_ ≠ gb375 ∧ k_ ≠ gb376 ∧ k_ ≠ gb393 ∧ k_ ≠ gb394 ∧ k_ ≠ gb429 ∧ k_ ≠ gb430) (.slice Ao82 t386.length co82) t386) := ⟨(by rw [hw]; exact (by (with_reducible repeat (first | apply Kd.V_alloc | apply Kd.V_drewN | apply Kd.V_drew)); exact Kd.V_mono (Kd.V_far (p := ⟨gb430, 3, none⟩) (Kd.V_far (p := ⟨gb430, 2, none⟩) (Kd.V_far (p := ⟨gb430, 1, none⟩) (Kd.V_far (p := ⟨gb430, 0, none⟩) (Kd.V_mono HO_394003.out (fun k_ hk => (⟨hk, hk.2.2.2.2.2.2⟩ : _ ∧ k_ ≠ gb430))) (fun _ hk => hk.2) (.bool true)) (fun _ hk => hk.2) (.int .i64 t426)) (fun _ hk => hk.2) (.int .i64 t427)) (fun _ hk => hk.2) (.int .i64 t428)) (fun _ hk => ⟨hk.1.1, ⟨hk.1.2.1, ⟨hk.1.2.2.1, ⟨hk.1.2.2.2.1, ⟨hk.1.2.2.2.2.1, ⟨hk.1.2.2.2.2.2.1, hk.1.2.2.2.2.2.2⟩⟩⟩⟩⟩⟩)))⟩; replace HO421 : Aside0 (Kd.V (Kd.int .i64) 3 w228 w.heap.size (fun k_ => k_ ≠ gb374 ∧ k_ ≠ gb375 ∧ k_ ≠ gb376 ∧ k_ ≠ gb393 ∧ k_ ≠ gb394 ∧ k_ ≠ gb429 ∧ k_ ≠ gb430) (.slice Ao219 t419.length co219) t419) := ⟨(by rw [hw]; exact (by (with_reducible repeat (first | apply Kd.V_alloc | apply Kd.V_drewN | apply Kd.V_drew)); exact Kd.V_mono (Kd.V_far (p := ⟨gb430, 3, none⟩) (Kd.V_far (p := ⟨gb430, 2, none⟩) (Kd.V_far (p := ⟨gb430, 1, none⟩) (Kd.V_far (p := ⟨gb430, 0, none⟩) (Kd.V_mono HO421.out (fun k_ hk => (⟨hk, hk.2.2.2.2.2.2⟩ : _ ∧ k_ ≠ gb430))) (fun _ hk => hk.2) (.bool true)) (fun _ hk => hk.2) (.int .i64 t426)) (fun _ hk => hk.2) (.int .i64 t427)) (fun _ hk => hk.2) (.int .i64 t428)) (fun _ hk => ⟨hk.1.1, ⟨hk.1.2.1, ⟨hk.1.2.2.1, ⟨hk.1.2.2.2.1, ⟨hk.1.2.2.2.2.1, ⟨hk.1.2.2.2.2.2.1, hk.1.2.2.2.2.2.2⟩⟩⟩⟩⟩⟩)))⟩; replace HO424 : Aside0 (Kd.V k54 54 w228 w.heap.size (fun k_ => k_ ≠ gb374 ∧ k_ ≠ gb375 ∧ k_ ≠ gb376 ∧ k_ ≠ gb393 ∧ k_ ≠ gb394 ∧ k_ ≠ gb429 ∧ k_ ≠ gb430) (.slice Ao220 t422.length co220) t422) := ⟨(by rw [hw]; exact (by (with_reducible repeat (first | apply Kd.V_alloc | apply Kd.V_drewN | apply Kd.V_drew)); exact Kd.V_mono (Kd.V_far (p := ⟨gb430, 3, none⟩) (Kd.V_far (p := ⟨gb430, 2, none⟩) (Kd.V_far (p := ⟨gb430, 1, none⟩) (Kd.V_far (p := ⟨gb430, 0, none⟩) (Kd.V_mono HO424.out (fun k_ hk => (⟨hk, hk.2.2.2.2.2.2⟩ : _ ∧ k_ ≠ gb430))) (fun _ hk => hk.2) (.bool true)) (fun _ hk => hk.2) (.int .i64 t426)) (fun _ hk => hk.2) (.int .i64 t427)) (fun _ hk => hk.2) (.int .i64 t428)) (fun _ hk => ⟨hk.1.1, ⟨hk.1.2.1, ⟨hk.1.2.2.1, ⟨hk.1.2.2.2.1, ⟨hk.1.2.2.2.2.1, ⟨hk.1.2.2.2.2.2.1, hk.1.2.2.2.2.2.2⟩⟩⟩⟩⟩⟩)))⟩; replace BK374 : Aside0 (w228.heap[gb374]? = some (.cells #[.int .i64 a0_0, .int .i64 a0_1, .int .i64 a0_2, .int .i64 a0_3] 23 (0, 0))) := ⟨(by rw [hw]; exact (by (with_reducible repeat (first | refine blk_drewN ?_ _ | refine blk_drew ?_ | refine blk_alloc ?_ _)); refine blk_far ?_ NB374_430.out _; (with_reducible repeat (first | refine blk_drewN ?_ _ | refine blk_drew ?_ | refine blk_alloc ?_ _)); refine blk_far ?_ NB374_430.out _; (with_reducible repeat (first | refine blk_drewN ?_ _ | refine blk_drew ?_ | refine blk_alloc ?_ _)); refine blk_far ?_ NB374_430.out _; (with_reducible repeat (first | refine blk_drewN ?_ _ | refine blk_drew ?_ | refine blk_alloc ?_ _)); refine blk_far ?_ NB374_430.out _; (with_reducible repeat (first | refine blk_drewN ?_ _ | refine blk_drew ?_ | refine blk_alloc ?_ _)); exact BK374.out))⟩; replace BK375 : Aside0 (w228.heap[gb375]? = some (.cells #[.int .i64 a1_0, .int .i64 a1_1, .slice A1_2 l1_2.length c1_2, .slice A1_3 l1_3.length c1_3] 27 (0, 0))) := ⟨(by rw [hw]; exact (by (with_reducible repeat (first | refine blk_drewN ?_ _ | refine blk_drew ?_ | refine blk_alloc ?_ _)); refine blk_far ?_ NB375_430.out _; (with_reducible repeat (first | refine blk_drewN ?_ _ | refine blk_drew ?_ | refine blk_alloc ?_ _)); refine blk_far ?_ NB375_430.out _; (with_reducible repeat (first | refine blk_drewN ?_ _ | refine blk_drew ?_ | refine blk_alloc ?_ _)); refine blk_far ?_ NB375_430.out _; (with_reducible repeat (first | refine blk_drewN ?_ _ | refine blk_drew ?_ | refine blk_alloc ?_ _)); refine blk_far ?_ NB375_430.out _; (with_reducible repeat (first | refine blk_drewN ?_ _ | refine blk_drew ?_ | refine blk_alloc ?_ _)); exact BK375.out))⟩; replace BK376 : Aside0 (w228.heap[gb376]? = some (.cells #[.int .i64 a2_0, .int .i64 a2_1] 28 (0, 0))) := ⟨(by rw [hw]; exact (by (with_reducible repeat (first | refine blk_drewN ?_ _ | refine blk_drew ?_ | refine blk_alloc ?_ _)); refine blk_far ?_ NB376_430.out _; (with_reducible repeat (first | refine blk_drewN ?_ _ | refine blk_drew ?_ | refine blk_alloc ?_ _)); refine blk_far ?_ NB376_430.out _; (with_reducible repeat (first | refine blk_drewN ?_ _ | refine blk_drew ?_ | refine blk_alloc ?_ _)); refine blk_far ?_ NB376_430.out _; (with_reducible repeat (first | refine blk_drewN ?_ _ | refine blk_drew ?_ | refine blk_alloc ?_ _)); refine blk_far ?_ NB376_430.out _; (with_reducible repeat (first | refine blk_drewN ?_ _ | refine blk_drew ?_ | refine blk_alloc ?_ _)); exact BK376.out))⟩; replace BK393 : Aside0 (w228.heap[gb393]? = some (.cells #[.int .i64 t381, .int .i64 t382, .slice Ao81 t383.length co81, .slice Ao82 t386.length co82] 27 (0, 0))) := ⟨(by rw [hw]; exact (by (with_reducible repeat (first | refine blk_drewN ?_ _ | refine blk_drew ?_ | refine blk_alloc ?_ _)); refine blk_far ?_ NB393_430.out _; (with_reducible repeat (first | refine blk_drewN ?_ _ | refine blk_drew ?_ | refine blk_alloc ?_ _)); refine blk_far ?_ NB393_430.out _; (with_reducible repeat (first | refine blk_drewN ?_ _ | refine blk_drew ?_ | refine blk_alloc ?_ _)); refine blk_far ?_ NB393_430.out _; (with_reducible repeat (first | refine blk_drewN ?_ _ | refine blk_drew ?_ | refine blk_alloc ?_ _)); refine blk_far ?_ NB393_430.out _; (with_reducible repeat (first | refine blk_drewN ?_ _ | refine blk_drew ?_ | refine blk_alloc ?_ _)); exact BK393.out))⟩; replace BK394 : Aside0 (w228.heap[gb394]? = some (.cells #[.bool false, .int .i64 t390, .int .i64 t391, .int .i64 t392] 32 (0, 0))) := ⟨(by rw [hw]; exact (by (with_reducible repeat (first | refine blk_drewN ?_ _ | refine blk_drew ?_ | refine blk_alloc ?_ _)); refine blk_far ?_ NB394_430.out _; (with_reducible repeat (first | refine blk_drewN ?_ _ | refine blk_drew ?_ | refine blk_alloc ?_ _)); refine blk_far ?_ NB394_430.out _; (with_reducible repeat (first | refine blk_drewN ?_ _ | refine blk_drew ?_ | refine blk_alloc ?_ _)); refine blk_far ?_ NB394_430.out _; (with_reducible repeat (first | refine blk_drewN ?_ _ | refine blk_drew ?_ | refine blk_alloc ?_ _)); refine blk_far ?_ NB394_430.out _; (with_reducible repeat (first | refine blk_drewN ?_ _ | refine blk_drew ?_ | refine blk_alloc ?_ _)); exact BK394.out))⟩; replace BK429 : Aside0 (w228.heap[gb429]? = some (.cells #[.int .i64 t417, .int .i64 t418, .slice Ao219 t419.length co219, .slice Ao220 t422.length co220] 27 (0, 0))) := ⟨(by rw [hw]; exact (by (with_reducible repeat (first | refine blk_drewN ?_ _ | refine blk_drew ?_ | refine blk_alloc ?_ _)); refine blk_far ?_ NB429_430.out _; (with_reducible repeat (first | refine blk_drewN ?_ _ | refine blk_drew ?_ | refine blk_alloc ?_ _)); refine blk_far ?_ NB429_430.out _; (with_reducible repeat (first | refine blk_drewN ?_ _ | refine blk_drew ?_ | refine blk_alloc ?_ _)); refine blk_far ?_ NB429_430.out _; (with_reducible repeat (first | refine blk_drewN ?_ _ | refine blk_drew ?_ | refine blk_alloc ?_ _)); refine blk_far ?_ NB429_430.out _; (with_reducible repeat (first | refine blk_drewN ?_ _ | refine blk_drew ?_ | refine blk_alloc ?_ _)); exact BK429.out))⟩; replace BK430 : Aside0 (w228.heap[gb430]? = some (.cells #[.bool true, .int .i64 t426, .int .i64 t427, .int .i64 t428] 32 (0, 0))) := ⟨(by rw [hw]; exact (by (with_reducible repeat (first | refine blk_drewN ?_ _ | refine blk_drew ?_ | refine blk_alloc ?_ _)); refine blk_put (cs := #[.bool true, .int .i64 t426, .int .i64 t427, .int .i64 0]) ?_ 3 _ rfl; (with_reducible repeat (first | refine blk_drewN ?_ _ | refine blk_drew ?_ | refine blk_alloc ?_ _)); refine blk_put (cs := #[.bool true, .int .i64 t426, .int .i64 0, .int .i64 0]) ?_ 2 _ rfl; (with_reducible repeat (first | refine blk_drewN ?_ _ | refine blk_drew ?_ | refine blk_alloc ?_ _)); refine blk_put (cs := #[.bool true, .int .i64 0, .int .i64 0, .int .i64 0]) ?_ 1 _ rfl; (with_reducible repeat (first | refine blk_drewN ?_ _ | refine blk_drew ?_ | refine blk_alloc ?_ _)); refine blk_put (cs := #[.bool false, .int .i64 0, .int .i64 0, .int .i64 0]) ?_ 0 _ rfl; (with_reducible repeat (first | refine blk_drewN ?_ _ | refine blk_drew ?_ | refine blk_alloc ?_ _)); exact BK430.out))⟩; replace HB : Aside0 (Below w.heap.size w w228) := ⟨(by rw [hw]; exact (bl HB))⟩; clear hw; obtain ⟨hcz229_0, hcz229_1, hcz229_2, hcz229_3⟩ := ce4 BK374; obtain ⟨hfz229_0, hfz229_1, hfz229_2, hfz229_3⟩ := fr4 BK374; obtain ⟨hcz230_0, hcz230_1, hcz230_2, hcz230_3⟩ := ce4 BK393; obtain ⟨hfz230_0, hfz230_1, hfz230_2, hfz230_3⟩ := fr4 BK393; obtain ⟨hcz231_0, hcz231_1, hcz231_2, hcz231_3⟩ := ce4 BK394; obtain ⟨hfz231_0, hfz231_1, hfz231_2, hfz231_3⟩ := fr4 BK394) | ((with_reducible refine gate_callee (f := 10) rfl ?_); refine goesL_ (some 181) rfl rfl Try.func10 (by kernel_rfl) rfl #[.agg #[.int .i64 a0_0, .int .i64 a0_1, .int .i64 a0_2, .int .i64 a0_3], .agg #[.int .i64 t381, .int .i64 t382, .slice Ao81 t383.length co81, .slice Ao82 t386.length co82], .int .i64 (wrap64 ((wrap64 (t381 + t391)) - 1)), .int .i64 a2_1] rfl (by (try simp only [List.map_toArray, List.map_cons, List.map_nil]); first | done | rfl | (simp only [List.length_drop, List.length_take]; rfl)) ?_; (with_reducible refine (ring_Ask.calls kj147 a0_0 a0_1 a0_2 a0_3 t381 t382 (fun k_ => (k_ ≠ gb374 ∧ (k_ ≠ gb375 ∧ (k_ ≠ gb376 ∧ (k_ ≠ gb393 ∧ (k_ ≠ gb394 ∧ (k_ ≠ gb429 ∧ k_ ≠ gb430))))))) _ _ t383 (fun k_ => (k_ ≠ gb374 ∧ (k_ ≠ gb375 ∧ (k_ ≠ gb376 ∧ (k_ ≠ gb393 ∧ (k_ ≠ gb394 ∧ (k_ ≠ gb429 ∧ k_ ≠ gb430))))))) _ _ t386 (wrap64 ((wrap64 (t381 + t391)) - 1)) a2_1 t431 t432 t433 t436 false t440 t441 t442 _ ?side1 ?side2 A192.out).mono ?_); (case side1 => exact HO_394002.out); (case side2 => exact HO_394003.out); rintro e w232 ⟨v434, v437, rfl, ho0, ho1, hb⟩; refine ⟨_, rfl, ?_⟩; have HO435 := Aside0.mk (Kd.V_lower (Kd.V_mono (ok' := fun k_ => k_ ≠ gb374 ∧ k_ ≠ gb375 ∧ k_ ≠ gb376 ∧ k_ ≠ gb393 ∧ k_ ≠ gb394 ∧ k_ ≠ gb429 ∧ k_ ≠ gb430) ho0 (fun k_ hk_ => ⟨Or.elim hk_ (fun hs_ => Or.elim hs_ (fun hs_ => hs_.1) (fun hs_ => hs_.1)) (fun hn_ => (Kd.freshB (bo BK374) k_ hn_)), Or.elim hk_ (fun hs_ => Or.elim hs_ (fun hs_ => hs_.2.1) (fun hs_ => hs_.2.1)) (fun hn_ => (Kd.freshB (bo BK375) k_ hn_)), Or.elim hk_ (fun hs_ => Or.elim hs_ (fun hs_ => hs_.2.2.1) (fun hs_ => hs_.2.2.1)) (fun hn_ => (Kd.freshB (bo BK376) k_ hn_)), Or.elim hk_ (fun hs_ => Or.elim hs_ (fun hs_ => hs_.2.2.2.1) (fun hs_ => hs_.2.2.2.1)) (fun hn_ => (Kd.freshB (bo BK393) k_ hn_)), Or.elim hk_ (fun hs_ => Or.elim hs_ (fun hs_ => hs_.2.2.2.2.1) (fun hs_ => hs_.2.2.2.2.1)) (fun hn_ => (Kd.freshB (bo BK394) k_ hn_)), Or.elim hk_ (fun hs_ => Or.elim hs_ (fun hs_ => hs_.2.2.2.2.2.1) (fun hs_ => hs_.2.2.2.2.2.1)) (fun hn_ => (Kd.freshB (bo BK429) k_ hn_)), Or.elim hk_ (fun hs_ => Or.elim hs_ (fun hs_ => hs_.2.2.2.2.2.2) (fun hs_ => hs_.2.2.2.2.2.2)) (fun hn_ => (Kd.freshB (bo BK430) k_ hn_))⟩)) (below_size (bl HB))); have HO438 := Aside0.mk (Kd.V_lower (Kd.V_mono (ok' := fun k_ => k_ ≠ gb374 ∧ k_ ≠ gb375 ∧ k_ ≠ gb376 ∧ k_ ≠ gb393 ∧ k_ ≠ gb394 ∧ k_ ≠ gb429 ∧ k_ ≠ gb430) ho1 (fun k_ hk_ => ⟨Or.elim hk_ (fun hs_ => Or.elim hs_ (fun hs_ => hs_.1) (fun hs_ => hs_.1)) (fun hn_ => (Kd.freshB (bo BK374) k_ hn_)), Or.elim hk_ (fun hs_ => Or.elim hs_ (fun hs_ => hs_.2.1) (fun hs_ => hs_.2.1)) (fun hn_ => (Kd.freshB (bo BK375) k_ hn_)), Or.elim hk_ (fun hs_ => Or.elim hs_ (fun hs_ => hs_.2.2.1) (fun hs_ => hs_.2.2.1)) (fun hn_ => (Kd.freshB (bo BK376) k_ hn_)), Or.elim hk_ (fun hs_ => Or.elim hs_ (fun hs_ => hs_.2.2.2.1) (fun hs_ => hs_.2.2.2.1)) (fun hn_ => (Kd.freshB (bo BK393) k_ hn_)), Or.elim hk_ (fun hs_ => Or.elim hs_ (fun hs_ => hs_.2.2.2.2.1) (fun hs_ => hs_.2.2.2.2.1)) (fun hn_ => (Kd.freshB (bo BK394) k_ hn_)), Or.elim hk_ (fun hs_ => Or.elim hs_ (fun hs_ => hs_.2.2.2.2.2.1) (fun hs_ => hs_.2.2.2.2.2.1)) (fun hn_ => (Kd.freshB (bo BK429) k_ hn_)), Or.elim hk_ (fun hs_ => Or.elim hs_ (fun hs_ => hs_.2.2.2.2.2.2) (fun hs_ => hs_.2.2.2.2.2.2)) (fun hn_ => (Kd.freshB (bo BK430) k_ hn_))⟩)) (below_size (bl HB))); replace HO_394002 := vb HO_394002 hb; replace HO_394003 := vb HO_394003 hb; replace HO421 := vb HO421 hb; replace HO424 := vb HO424 hb; replace BK374 := Aside0.mk (blk_below (bo BK374) hb); replace BK375 := Aside0.mk (blk_below (bo BK375) hb); replace BK376 := Aside0.mk (blk_below (bo BK376) hb); replace BK393 := Aside0.mk (blk_below (bo BK393) hb); replace BK394 := Aside0.mk (blk_below (bo BK394) hb); replace BK429 := Aside0.mk (blk_below (bo BK429) hb); replace BK430 := Aside0.mk (blk_below (bo BK430) hb); replace HB := Aside0.mk (below_step (bl HB) hb); (try clear hb); (try clear hb2); (try clear hk); (try clear hi); (try clear ho0); (try clear ho1)) | ((with_reducible refine gate_dst (N := 15) rfl ?_); (try (refine gate_guard (by rfl) ?_; dsimp only)); refine box_event ?hg (N := 15) ?hd (cs := #[.int .i64 0, .int .i64 0, .slice none 0 0, .slice none 0 0]) (t := 27) ?hr ?_; (case hd => rfl); (case hg => rfl); (case hr => first | (go_simp; done) | (go_simp; rfl)); intro gb443 hg w233 hbox hb; have BK443 := Aside0.mk (hbox); have GW443 := Aside0.mk ((by rw [hg]; exact (below_size (bl HB)) : w.heap.size ≤ gb443)); have GE443 := Aside0.mk ((by rw [hg]; exact (below_size (bl HB)) : w.heap.size ≤ gb443)); have NB374_443 := nb BK374 hg; have NB443_374 := bn BK374 hg; have NB375_443 := nb BK375 hg; have NB443_375 := bn BK375 hg; have NB376_443 := nb BK376 hg; have NB443_376 := bn BK376 hg; have NB393_443 := nb BK393 hg; have NB443_393 := bn BK393 hg; have NB394_443 := nb BK394 hg; have NB443_394 := bn BK394 hg; have NB429_443 := nb BK429 hg; have NB443_429 := bn BK429 hg; have NB430_443 := nb BK430 hg; have NB443_430 := bn BK430 hg; replace HO_394002 := ve HO_394002 hg hb; replace HO_394003 := ve HO_394003 hg hb; replace HO421 := ve HO421 hg hb; replace HO424 := ve HO424 hg hb; replace HO435 := ve HO435 hg hb; replace HO438 := ve HO438 hg hb; replace BK374 := Aside0.mk (blk_below (bo BK374) hb); replace BK375 := Aside0.mk (blk_below (bo BK375) hb); replace BK376 := Aside0.mk (blk_below (bo BK376) hb); replace BK393 := Aside0.mk (blk_below (bo BK393) hb); replace BK394 := Aside0.mk (blk_below (bo BK394) hb); replace BK429 := Aside0.mk (blk_below (bo BK429) hb); replace BK430 := Aside0.mk (blk_below (bo BK430) hb); replace HB := Aside0.mk (below_step (bl HB) hb); clear hb hbox hg) | ((with_reducible refine gate_dst (N := 16) rfl ?_); (try (refine gate_guard (by rfl) ?_; dsimp only)); refine box_event ?hg (N := 16) ?hd (cs := #[.bool false, .int .i64 0, .int .i64 0, .int .i64 0]) (t := 32) ?hr ?_; (case hd => rfl); (case hg => rfl); (case hr => first | (go_simp; done) | (go_simp; rfl)); intro gb444 hg w234 hbox hb; have BK444 := Aside0.mk (hbox); have GW444 := Aside0.mk ((by rw [hg]; exact (below_size (bl HB)) : w.heap.size ≤ gb444)); have GE444 := Aside0.mk ((by rw [hg]; exact (below_size (bl HB)) : w.heap.size ≤ gb444)); have NB374_444 := nb BK374 hg; have NB444_374 := bn BK374 hg; have NB375_444 := nb BK375 hg; have NB444_375 := bn BK375 hg; have NB376_444 := nb BK376 hg; have NB444_376 := bn BK376 hg; have NB393_444 := nb BK393 hg; have NB444_393 := bn BK393 hg; have NB394_444 := nb BK394 hg; have NB444_394 := bn BK394 hg; have NB429_444 := nb BK429 hg; have NB444_429 := bn BK429 hg; have NB430_444 := nb BK430 hg; have NB444_430 := bn BK430 hg; have NB443_444 := nb BK443 hg; have NB444_443 := bn BK443 hg; replace HO_394002 := ve HO_394002 hg hb; replace HO_394003 := ve HO_394003 hg hb; replace HO421 := ve HO421 hg hb; replace HO424 := ve HO424 hg hb; replace HO435 := ve HO435 hg hb; replace HO438 := ve HO438 hg hb; replace BK374 := Aside0.mk (blk_below (bo BK374) hb); replace BK375 := Aside0.mk (blk_below (bo BK375) hb); replace BK376 := Aside0.mk (blk_below (bo BK376) hb); replace BK393 := Aside0.mk (blk_below (bo BK393) hb); replace BK394 := Aside0.mk (blk_below (bo BK394) hb); replace BK429 := Aside0.mk (blk_below (bo BK429) hb); replace BK430 := Aside0.mk (blk_below (bo BK430) hb); replace BK443 := Aside0.mk (blk_below (bo BK443) hb); replace HB := Aside0.mk (below_step (bl HB) hb); clear hb hbox hg; have hnb235 := NB443_374.out; have hnc235 := NB374_443.out; have hnb236 := NB443_375.out; have hnc236 := NB375_443.out; have hnb237 := NB443_376.out; have hnc237 := NB376_443.out; have hnb238 := NB443_393.out; have hnc238 := NB393_443.out; have hnb239 := NB443_394.out; have hnc239 := NB394_443.out; have hnb240 := NB443_429.out; have hnc240 := NB429_443.out; have hnb241 := NB443_430.out; have hnc241 := NB430_443.out; have hnb242 := NB443_444.out; have hnc242 := NB444_443.out; obtain ⟨hcz243_0, hcz243_1, hcz243_2, hcz243_3⟩ := ce4 BK443; obtain ⟨hfz243_0, hfz243_1, hfz243_2, hfz243_3⟩ := fr4 BK443; obtain ⟨Ao244, co244, eo244⟩ := Kd.V_slice HO435.out; subst eo244; obtain ⟨Ao245, co245, eo245⟩ := Kd.V_slice HO438.out; subst eo245) | ((with_reducible refine gate_store (t := 27) (p := 15) rfl ?_); refine store_event (t := 27) (p := 15) (v := ?vo_w246) (w1 := ((((w234.setCell ⟨gb443, 0, none⟩ (.int .i64 t431)).setCell ⟨gb443, 1, none⟩ (.int .i64 t432)).setCell ⟨gb443, 2, none⟩ (.slice Ao244 t433.length co244)).setCell ⟨gb443, 3, none⟩ (.slice Ao245 t436.length co245))) ?hg ?ho ?hn ?hr ?_; (case ho => rfl); (case hg => rfl); (case hn => rfl); (case hr => first | (go_simp; done) | (go_simp; rfl)); intro w246 hw; replace HO_394002 : Aside0 (Kd.V (Kd.int .i64) 3 w246 w.heap.size (fun k_ => k_ ≠ gb374 ∧ k_ ≠ gb375 ∧ k_ ≠ gb376 ∧ k_ ≠ gb393 ∧ k_ ≠ gb394 ∧ k_ ≠ gb429 ∧ k_ ≠ gb430 ∧ k_ ≠ gb443 ∧ k_ ≠ gb444) (.slice Ao81 t383.length co81) t383) := ⟨(by rw [hw]; exact (by (with_reducible repeat (first | apply Kd.V_alloc | apply Kd.V_drewN | apply Kd.V_drew)); exact Kd.V_mono (Kd.V_far (p := ⟨gb443, 3, none⟩) (Kd.V_far (p := ⟨gb443, 2, none⟩) (Kd.V_far (p := ⟨gb443, 1, none⟩) (Kd.V_far (p := ⟨gb443, 0, none⟩) (Kd.V_mono HO_394002.out (fun k_ hk => (⟨hk, hk.1.2⟩ : _ ∧ k_ ≠ gb443))) (fun _ hk => hk.2) (.int .i64 t431)) (fun _ hk => hk.2) (.int .i64 t432)) (fun _ hk => hk.2) (.slice Ao244 t433.length co244)) (fun _ hk => hk.2) (.slice Ao245 t436.length co245)) (fun _ hk => ⟨hk.1.1.1.1, ⟨hk.1.1.1.2.1, ⟨hk.1.1.1.2.2.1, ⟨hk.1.1.1.2.2.2.1, ⟨hk.1.1.1.2.2.2.2.1, ⟨hk.1.1.1.2.2.2.2.2.1, ⟨hk.1.1.1.2.2.2.2.2.2, ⟨hk.1.1.2, hk.1.2⟩⟩⟩⟩⟩⟩⟩⟩)))⟩; replace HO_394003 : Aside0 (Kd.V k54 54 w246 w.heap.size (fun k_ => k_ ≠ gb374 ∧ k_ ≠ gb375 ∧ k_ ≠ gb376 ∧ k_ ≠ gb393 ∧ k_ ≠ gb394 ∧ k_ ≠ gb429 ∧ k_ ≠ gb430 ∧ k_ ≠ gb443 ∧ k_ ≠ gb444) (.slice Ao82 t386.length co82) t386) := ⟨(by rw [hw]; exact (by (with_reducible repeat (first | apply Kd.V_alloc | apply Kd.V_drewN | apply Kd.V_drew)); exact Kd.V_mono (Kd.V_far (p := ⟨gb443, 3, none⟩) (Kd.V_far (p := ⟨gb443, 2, none⟩) (Kd.V_far (p := ⟨gb443, 1, none⟩) (Kd.V_far (p := ⟨gb443, 0, none⟩) (Kd.V_mono HO_394003.out (fun k_ hk => (⟨hk, hk.1.2⟩ : _ ∧ k_ ≠ gb443))) (fun _ hk => hk.2) (.int .i64 t431)) (fun _ hk => hk.2) (.int .i64 t432)) (fun _ hk => hk.2) (.slice Ao244 t433.length co244)) (fun _ hk => hk.2) (.slice Ao245 t436.length co245)) (fun _ hk => ⟨hk.1.1.1.1, ⟨hk.1.1.1.2.1, ⟨hk.1.1.1.2.2.1, ⟨hk.1.1.1.2.2.2.1, ⟨hk.1.1.1.2.2.2.2.1, ⟨hk.1.1.1.2.2.2.2.2.1, ⟨hk.1.1.1.2.2.2.2.2.2, ⟨hk.1.1.2, hk.1.2⟩⟩⟩⟩⟩⟩⟩⟩)))⟩; replace HO421 : Aside0 (Kd.V (Kd.int .i64) 3 w246 w.heap.size (fun k_ => k_ ≠ gb374 ∧ k_ ≠ gb375 ∧ k_ ≠ gb376 ∧ k_ ≠ gb393 ∧ k_ ≠ gb394 ∧ k_ ≠ gb429 ∧ k_ ≠ gb430 ∧ k_ ≠ gb443 ∧ k_ ≠ gb444) (.slice Ao219 t419.length co219) t419) := ⟨(by rw [hw]; exact (by (with_reducible repeat (first | apply Kd.V_alloc | apply Kd.V_drewN | apply Kd.V_drew)); exact Kd.V_mono (Kd.V_far (p := ⟨gb443, 3, none⟩) (Kd.V_far (p := ⟨gb443, 2, none⟩) (Kd.V_far (p := ⟨gb443, 1, none⟩) (Kd.V_far (p := ⟨gb443, 0, none⟩) (Kd.V_mono HO421.out (fun k_ hk => (⟨hk, hk.1.2⟩ : _ ∧ k_ ≠ gb443))) (fun _ hk => hk.2) (.int .i64 t431)) (fun _ hk => hk.2) (.int .i64 t432)) (fun _ hk => hk.2) (.slice Ao244 t433.length co244)) (fun _ hk => hk.2) (.slice Ao245 t436.length co245)) (fun _ hk => ⟨hk.1.1.1.1, ⟨hk.1.1.1.2.1, ⟨hk.1.1.1.2.2.1, ⟨hk.1.1.1.2.2.2.1, ⟨hk.1.1.1.2.2.2.2.1, ⟨hk.1.1.1.2.2.2.2.2.1, ⟨hk.1.1.1.2.2.2.2.2.2, ⟨hk.1.1.2, hk.1.2⟩⟩⟩⟩⟩⟩⟩⟩)))⟩; replace HO424 : Aside0 (Kd.V k54 54 w246 w.heap.size (fun k_ => k_ ≠ gb374 ∧ k_ ≠ gb375 ∧ k_ ≠ gb376 ∧ k_ ≠ gb393 ∧ k_ ≠ gb394 ∧ k_ ≠ gb429 ∧ k_ ≠ gb430 ∧ k_ ≠ gb443 ∧ k_ ≠ gb444) (.slice Ao220 t422.length co220) t422) := ⟨(by rw [hw]; exact (by (with_reducible repeat (first | apply Kd.V_alloc | apply Kd.V_drewN | apply Kd.V_drew)); exact Kd.V_mono (Kd.V_far (p := ⟨gb443, 3, none⟩) (Kd.V_far (p := ⟨gb443, 2, none⟩) (Kd.V_far (p := ⟨gb443, 1, none⟩) (Kd.V_far (p := ⟨gb443, 0, none⟩) (Kd.V_mono HO424.out (fun k_ hk => (⟨hk, hk.1.2⟩ : _ ∧ k_ ≠ gb443))) (fun _ hk => hk.2) (.int .i64 t431)) (fun _ hk => hk.2) (.int .i64 t432)) (fun _ hk => hk.2) (.slice Ao244 t433.length co244)) (fun _ hk => hk.2) (.slice Ao245 t436.length co245)) (fun _ hk => ⟨hk.1.1.1.1, ⟨hk.1.1.1.2.1, ⟨hk.1.1.1.2.2.1, ⟨hk.1.1.1.2.2.2.1, ⟨hk.1.1.1.2.2.2.2.1, ⟨hk.1.1.1.2.2.2.2.2.1, ⟨hk.1.1.1.2.2.2.2.2.2, ⟨hk.1.1.2, hk.1.2⟩⟩⟩⟩⟩⟩⟩⟩)))⟩; replace HO435 : Aside0 (Kd.V (Kd.int .i64) 3 w246 w.heap.size (fun k_ => k_ ≠ gb374 ∧ k_ ≠ gb375 ∧ k_ ≠ gb376 ∧ k_ ≠ gb393 ∧ k_ ≠ gb394 ∧ k_ ≠ gb429 ∧ k_ ≠ gb430 ∧ k_ ≠ gb443 ∧ k_ ≠ gb444) (.slice Ao244 t433.length co244) t433) := ⟨(by rw [hw]; exact (by (with_reducible repeat (first | apply Kd.V_alloc | apply Kd.V_drewN | apply Kd.V_drew)); exact Kd.V_mono (Kd.V_far (p := ⟨gb443, 3, none⟩) (Kd.V_far (p := ⟨gb443, 2, none⟩) (Kd.V_far (p := ⟨gb443, 1, none⟩) (Kd.V_far (p := ⟨gb443, 0, none⟩) (Kd.V_mono HO435.out (fun k_ hk => (⟨hk, hk.1.2⟩ : _ ∧ k_ ≠ gb443))) (fun _ hk => hk.2) (.int .i64 t431)) (fun _ hk => hk.2) (.int .i64 t432)) (fun _ hk => hk.2) (.slice Ao244 t433.length co244)) (fun _ hk => hk.2) (.slice Ao245 t436.length co245)) (fun _ hk => ⟨hk.1.1.1.1, ⟨hk.1.1.1.2.1, ⟨hk.1.1.1.2.2.1, ⟨hk.1.1.1.2.2.2.1, ⟨hk.1.1.1.2.2.2.2.1, ⟨hk.1.1.1.2.2.2.2.2.1, ⟨hk.1.1.1.2.2.2.2.2.2, ⟨hk.1.1.2, hk.1.2⟩⟩⟩⟩⟩⟩⟩⟩)))⟩; replace HO438 : Aside0 (Kd.V k54 54 w246 w.heap.size (fun k_ => k_ ≠ gb374 ∧ k_ ≠ gb375 ∧ k_ ≠ gb376 ∧ k_ ≠ gb393 ∧ k_ ≠ gb394 ∧ k_ ≠ gb429 ∧ k_ ≠ gb430 ∧ k_ ≠ gb443 ∧ k_ ≠ gb444) (.slice Ao245 t436.length co245) t436) := ⟨(by rw [hw]; exact (by (with_reducible repeat (first | apply Kd.V_alloc | apply Kd.V_drewN | apply Kd.V_drew)); exact Kd.V_mono (Kd.V_far (p := ⟨gb443, 3, none⟩) (Kd.V_far (p := ⟨gb443, 2, none⟩) (Kd.V_far (p := ⟨gb443, 1, none⟩) (Kd.V_far (p := ⟨gb443, 0, none⟩) (Kd.V_mono HO438.out (fun k_ hk => (⟨hk, hk.1.2⟩ : _ ∧ k_ ≠ gb443))) (fun _ hk => hk.2) (.int .i64 t431)) (fun _ hk => hk.2) (.int .i64 t432)) (fun _ hk => hk.2) (.slice Ao244 t433.length co244)) (fun _ hk => hk.2) (.slice Ao245 t436.length co245)) (fun _ hk => ⟨hk.1.1.1.1, ⟨hk.1.1.1.2.1, ⟨hk.1.1.1.2.2.1, ⟨hk.1.1.1.2.2.2.1, ⟨hk.1.1.1.2.2.2.2.1, ⟨hk.1.1.1.2.2.2.2.2.1, ⟨hk.1.1.1.2.2.2.2.2.2, ⟨hk.1.1.2, hk.1.2⟩⟩⟩⟩⟩⟩⟩⟩)))⟩; replace BK374 : Aside0 (w246.heap[gb374]? = some (.cells #[.int .i64 a0_0, .int .i64 a0_1, .int .i64 a0_2, .int .i64 a0_3] 23 (0, 0))) := ⟨(by rw [hw]; exact (by (with_reducible repeat (first | refine blk_drewN ?_ _ | refine blk_drew ?_ | refine blk_alloc ?_ _)); refine blk_far ?_ NB374_443.out _; (with_reducible repeat (first | refine blk_drewN ?_ _ | refine blk_drew ?_ | refine blk_alloc ?_ _)); refine blk_far ?_ NB374_443.out _; (with_reducible repeat (first | refine blk_drewN ?_ _ | refine blk_drew ?_ | refine blk_alloc ?_ _)); refine blk_far ?_ NB374_443.out _; (with_reducible repeat (first | refine blk_drewN ?_ _ | refine blk_drew ?_ | refine blk_alloc ?_ _)); refine blk_far ?_ NB374_443.out _; (with_reducible repeat (first | refine blk_drewN ?_ _ | refine blk_drew ?_ | refine blk_alloc ?_ _)); exact BK374.out))⟩; replace BK375 : Aside0 (w246.heap[gb375]? = some (.cells #[.int .i64 a1_0, .int .i64 a1_1, .slice A1_2 l1_2.length c1_2, .slice A1_3 l1_3.length c1_3] 27 (0, 0))) := ⟨(by rw [hw]; exact (by (with_reducible repeat (first | refine blk_drewN ?_ _ | refine blk_drew ?_ | refine blk_alloc ?_ _)); refine blk_far ?_ NB375_443.out _; (with_reducible repeat (first | refine blk_drewN ?_ _ | refine blk_drew ?_ | refine blk_alloc ?_ _)); refine blk_far ?_ NB375_443.out _; (with_reducible repeat (first | refine blk_drewN ?_ _ | refine blk_drew ?_ | refine blk_alloc ?_ _)); refine blk_far ?_ NB375_443.out _; (with_reducible repeat (first | refine blk_drewN ?_ _ | refine blk_drew ?_ | refine blk_alloc ?_ _)); refine blk_far ?_ NB375_443.out _; (with_reducible repeat (first | refine blk_drewN ?_ _ | refine blk_drew ?_ | refine blk_alloc ?_ _)); exact BK375.out))⟩; replace BK376 : Aside0 (w246.heap[gb376]? = some (.cells #[.int .i64 a2_0, .int .i64 a2_1] 28 (0, 0))) := ⟨(by rw [hw]; exact (by (with_reducible repeat (first | refine blk_drewN ?_ _ | refine blk_drew ?_ | refine blk_alloc ?_ _)); refine blk_far ?_ NB376_443.out _; (with_reducible repeat (first | refine blk_drewN ?_ _ | refine blk_drew ?_ | refine blk_alloc ?_ _)); refine blk_far ?_ NB376_443.out _; (with_reducible repeat (first | refine blk_drewN ?_ _ | refine blk_drew ?_ | refine blk_alloc ?_ _)); refine blk_far ?_ NB376_443.out _; (with_reducible repeat (first | refine blk_drewN ?_ _ | refine blk_drew ?_ | refine blk_alloc ?_ _)); refine blk_far ?_ NB376_443.out _; (with_reducible repeat (first | refine blk_drewN ?_ _ | refine blk_drew ?_ | refine blk_alloc ?_ _)); exact BK376.out))⟩; replace BK393 : Aside0 (w246.heap[gb393]? = some (.cells #[.int .i64 t381, .int .i64 t382, .slice Ao81 t383.length co81, .slice Ao82 t386.length co82] 27 (0, 0))) := ⟨(by rw [hw]; exact (by (with_reducible repeat (first | refine blk_drewN ?_ _ | refine blk_drew ?_ | refine blk_alloc ?_ _)); refine blk_far ?_ NB393_443.out _; (with_reducible repeat (first | refine blk_drewN ?_ _ | refine blk_drew ?_ | refine blk_alloc ?_ _)); refine blk_far ?_ NB393_443.out _; (with_reducible repeat (first | refine blk_drewN ?_ _ | refine blk_drew ?_ | refine blk_alloc ?_ _)); refine blk_far ?_ NB393_443.out _; (with_reducible repeat (first | refine blk_drewN ?_ _ | refine blk_drew ?_ | refine blk_alloc ?_ _)); refine blk_far ?_ NB393_443.out _; (with_reducible repeat (first | refine blk_drewN ?_ _ | refine blk_drew ?_ | refine blk_alloc ?_ _)); exact BK393.out))⟩; replace BK394 : Aside0 (w246.heap[gb394]? = some (.cells #[.bool false, .int .i64 t390, .int .i64 t391, .int .i64 t392] 32 (0, 0))) := ⟨(by rw [hw]; exact (by (with_reducible repeat (first | refine blk_drewN ?_ _ | refine blk_drew ?_ | refine blk_alloc ?_ _)); refine blk_far ?_ NB394_443.out _; (with_reducible repeat (first | refine blk_drewN ?_ _ | refine blk_drew ?_ | refine blk_alloc ?_ _)); refine blk_far ?_ NB394_443.out _; (with_reducible repeat (first | refine blk_drewN ?_ _ | refine blk_drew ?_ | refine blk_alloc ?_ _)); refine blk_far ?_ NB394_443.out _; (with_reducible repeat (first | refine blk_drewN ?_ _ | refine blk_drew ?_ | refine blk_alloc ?_ _)); refine blk_far ?_ NB394_443.out _; (with_reducible repeat (first | refine blk_drewN ?_ _ | refine blk_drew ?_ | refine blk_alloc ?_ _)); exact BK394.out))⟩; replace BK429 : Aside0 (w246.heap[gb429]? = some (.cells #[.int .i64 t417, .int .i64 t418, .slice Ao219 t419.length co219, .slice Ao220 t422.length co220] 27 (0, 0))) := ⟨(by rw [hw]; exact (by (with_reducible repeat (first | refine blk_drewN ?_ _ | refine blk_drew ?_ | refine blk_alloc ?_ _)); refine blk_far ?_ NB429_443.out _; (with_reducible repeat (first | refine blk_drewN ?_ _ | refine blk_drew ?_ | refine blk_alloc ?_ _)); refine blk_far ?_ NB429_443.out _; (with_reducible repeat (first | refine blk_drewN ?_ _ | refine blk_drew ?_ | refine blk_alloc ?_ _)); refine blk_far ?_ NB429_443.out _; (with_reducible repeat (first | refine blk_drewN ?_ _ | refine blk_drew ?_ | refine blk_alloc ?_ _)); refine blk_far ?_ NB429_443.out _; (with_reducible repeat (first | refine blk_drewN ?_ _ | refine blk_drew ?_ | refine blk_alloc ?_ _)); exact BK429.out))⟩; replace BK430 : Aside0 (w246.heap[gb430]? = some (.cells #[.bool true, .int .i64 t426, .int .i64 t427, .int .i64 t428] 32 (0, 0))) := ⟨(by rw [hw]; exact (by (with_reducible repeat (first | refine blk_drewN ?_ _ | refine blk_drew ?_ | refine blk_alloc ?_ _)); refine blk_far ?_ NB430_443.out _; (with_reducible repeat (first | refine blk_drewN ?_ _ | refine blk_drew ?_ | refine blk_alloc ?_ _)); refine blk_far ?_ NB430_443.out _; (with_reducible repeat (first | refine blk_drewN ?_ _ | refine blk_drew ?_ | refine blk_alloc ?_ _)); refine blk_far ?_ NB430_443.out _; (with_reducible repeat (first | refine blk_drewN ?_ _ | refine blk_drew ?_ | refine blk_alloc ?_ _)); refine blk_far ?_ NB430_443.out _; (with_reducible repeat (first | refine blk_drewN ?_ _ | refine blk_drew ?_ | refine blk_alloc ?_ _)); exact BK430.out))⟩; replace BK443 : Aside0 (w246.heap[gb443]? = some (.cells #[.int .i64 t431, .int .i64 t432, .slice Ao244 t433.length co244, .slice Ao245 t436.length co245] 27 (0, 0))) := ⟨(by rw [hw]; exact (by (with_reducible repeat (first | refine blk_drewN ?_ _ | refine blk_drew ?_ | refine blk_alloc ?_ _)); refine blk_put (cs := #[.int .i64 t431, .int .i64 t432, .slice Ao244 t433.length co244, .slice none 0 0]) ?_ 3 _ rfl; (with_reducible repeat (first | refine blk_drewN ?_ _ | refine blk_drew ?_ | refine blk_alloc ?_ _)); refine blk_put (cs := #[.int .i64 t431, .int .i64 t432, .slice none 0 0, .slice none 0 0]) ?_ 2 _ rfl; (with_reducible repeat (first | refine blk_drewN ?_ _ | refine blk_drew ?_ | refine blk_alloc ?_ _)); refine blk_put (cs := #[.int .i64 t431, .int .i64 0, .slice none 0 0, .slice none 0 0]) ?_ 1 _ rfl; (with_reducible repeat (first | refine blk_drewN ?_ _ | refine blk_drew ?_ | refine blk_alloc ?_ _)); refine blk_put (cs := #[.int .i64 0, .int .i64 0, .slice none 0 0, .slice none 0 0]) ?_ 0 _ rfl; (with_reducible repeat (first | refine blk_drewN ?_ _ | refine blk_drew ?_ | refine blk_alloc ?_ _)); exact BK443.out))⟩; replace BK444 : Aside0 (w246.heap[gb444]? = some (.cells #[.bool false, .int .i64 0, .int .i64 0, .int .i64 0] 32 (0, 0))) := ⟨(by rw [hw]; exact (by (with_reducible repeat (first | refine blk_drewN ?_ _ | refine blk_drew ?_ | refine blk_alloc ?_ _)); refine blk_far ?_ NB444_443.out _; (with_reducible repeat (first | refine blk_drewN ?_ _ | refine blk_drew ?_ | refine blk_alloc ?_ _)); refine blk_far ?_ NB444_443.out _; (with_reducible repeat (first | refine blk_drewN ?_ _ | refine blk_drew ?_ | refine blk_alloc ?_ _)); refine blk_far ?_ NB444_443.out _; (with_reducible repeat (first | refine blk_drewN ?_ _ | refine blk_drew ?_ | refine blk_alloc ?_ _)); refine blk_far ?_ NB444_443.out _; (with_reducible repeat (first | refine blk_drewN ?_ _ | refine blk_drew ?_ | refine blk_alloc ?_ _)); exact BK444.out))⟩; replace HB : Aside0 (Below w.heap.size w w246) := ⟨(by rw [hw]; exact (bl HB))⟩; clear hw; have hnb247 := NB444_374.out; have hnc247 := NB374_444.out; have hnb248 := NB444_375.out; have hnc248 := NB375_444.out; have hnb249 := NB444_376.out; have hnc249 := NB376_444.out; have hnb250 := NB444_393.out; have hnc250 := NB393_444.out; have hnb251 := NB444_394.out; have hnc251 := NB394_444.out; have hnb252 := NB444_429.out; have hnc252 := NB429_444.out; have hnb253 := NB444_430.out; have hnc253 := NB430_444.out; obtain ⟨hcz254_0, hcz254_1, hcz254_2, hcz254_3⟩ := ce4 BK444; obtain ⟨hfz254_0, hfz254_1, hfz254_2, hfz254_3⟩ := fr4 BK444) | ((with_reducible refine gate_store (t := 32) (p := 16) rfl ?_); refine store_event (t := 32) (p := 16) (v := ?vo_w255) (w1 := ((((w246.setCell ⟨gb444, 0, none⟩ (.bool false)).setCell ⟨gb444, 1, none⟩ (.int .i64 t440)).setCell ⟨gb444, 2, none⟩ (.int .i64 t441)).setCell ⟨gb444, 3, none⟩ (.int .i64 t442))) ?hg ?ho ?hn ?hr ?_; (case ho => rfl); (case hg => rfl); (case hn => rfl); (case hr => first | (go_simp; done) | (go_simp; rfl)); intro w255 hw; replace HO_394002 : Aside0 (Kd.V (Kd.int .i64) 3 w255 w.heap.size (fun k_ => k_ ≠ gb374 ∧ k_ ≠ gb375 ∧ k_ ≠ gb376 ∧ k_ ≠ gb393 ∧ k_ ≠ gb394 ∧ k_ ≠ gb429 ∧ k_ ≠ gb430 ∧ k_ ≠ gb443 ∧ k_ ≠ gb444) (.slice Ao81 t383.length co81) t383) := ⟨(by rw [hw]; exact (by (with_reducible repeat (first | apply Kd.V_alloc | apply Kd.V_drewN | apply Kd.V_drew)); exact Kd.V_mono (Kd.V_far (p := ⟨gb444, 3, none⟩) (Kd.V_far (p := ⟨gb444, 2, none⟩) (Kd.V_far (p := ⟨gb444, 1, none⟩) (Kd.V_far (p := ⟨gb444, 0, none⟩) (Kd.V_mono HO_394002.out (fun k_ hk => (⟨hk, hk.2.2.2.2.2.2.2.2⟩ : _ ∧ k_ ≠ gb444))) (fun _ hk => hk.2) (.bool false)) (fun _ hk => hk.2) (.int .i64 t440)) (fun _ hk => hk.2) (.int .i64 t441)) (fun _ hk => hk.2) (.int .i64 t442)) (fun _ hk => ⟨hk.1.1, ⟨hk.1.2.1, ⟨hk.1.2.2.1, ⟨hk.1.2.2.2.1, ⟨hk.1.2.2.2.2.1, ⟨hk.1.2.2.2.2.2.1, ⟨hk.1.2.2.2.2.2.2.1, ⟨hk.1.2.2.2.2.2.2.2.1, hk.1.2.2.2.2.2.2.2.2⟩⟩⟩⟩⟩⟩⟩⟩)))⟩; replace HO_394003 : Aside0 (Kd.V k54 54 w255 w.heap.size (fun k_ => k_ ≠ gb374 ∧ k_ ≠ gb375 ∧ k_ ≠ gb376 ∧ k_ ≠ gb393 ∧ k_ ≠ gb394 ∧ k_ ≠ gb429 ∧ k_ ≠ gb430 ∧ k_ ≠ gb443 ∧ k_ ≠ gb444) (.slice Ao82 t386.length co82) t386) := ⟨(by rw [hw]; exact (by (with_reducible repeat (first | apply Kd.V_alloc | apply Kd.V_drewN | apply Kd.V_drew)); exact Kd.V_mono (Kd.V_far (p := ⟨gb444, 3, none⟩) (Kd.V_far (p := ⟨gb444, 2, none⟩) (Kd.V_far (p := ⟨gb444, 1, none⟩) (Kd.V_far (p := ⟨gb444, 0, none⟩) (Kd.V_mono HO_394003.out (fun k_ hk => (⟨hk, hk.2.2.2.2.2.2.2.2⟩ : _ ∧ k_ ≠ gb444))) (fun _ hk => hk.2) (.bool false)) (fun _ hk => hk.2) (.int .i64 t440)) (fun _ hk => hk.2) (.int .i64 t441)) (fun _ hk => hk.2) (.int .i64 t442)) (fun _ hk => ⟨hk.1.1, ⟨hk.1.2.1, ⟨hk.1.2.2.1, ⟨hk.1.2.2.2.1, ⟨hk.1.2.2.2.2.1, ⟨hk.1.2.2.2.2.2.1, ⟨hk.1.2.2.2.2.2.2.1, ⟨hk.1.2.2.2.2.2.2.2.1, hk.1.2.2.2.2.2.2.2.2⟩⟩⟩⟩⟩⟩⟩⟩)))⟩; replace HO421 : Aside0 (Kd.V (Kd.int .i64) 3 w255 w.heap.size (fun k_ => k_ ≠ gb374 ∧ k_ ≠ gb375 ∧ k_ ≠ gb376 ∧ k_ ≠ gb393 ∧ k_ ≠ gb394 ∧ k_ ≠ gb429 ∧ k_ ≠ gb430 ∧ k_ ≠ gb443 ∧ k_ ≠ gb444) (.slice Ao219 t419.length co219) t419) := ⟨(by rw [hw]; exact (by (with_reducible repeat (first | apply Kd.V_alloc | apply Kd.V_drewN | apply Kd.V_drew)); exact Kd.V_mono (Kd.V_far (p := ⟨gb444, 3, none⟩) (Kd.V_far (p := ⟨gb444, 2, none⟩) (Kd.V_far (p := ⟨gb444, 1, none⟩) (Kd.V_far (p := ⟨gb444, 0, none⟩) (Kd.V_mono HO421.out (fun k_ hk => (⟨hk, hk.2.2.2.2.2.2.2.2⟩ : _ ∧ k_ ≠ gb444))) (fun _ hk => hk.2) (.bool false)) (fun _ hk => hk.2) (.int .i64 t440)) (fun _ hk => hk.2) (.int .i64 t441)) (fun _ hk => hk.2) (.int .i64 t442)) (fun _ hk => ⟨hk.1.1, ⟨hk.1.2.1, ⟨hk.1.2.2.1, ⟨hk.1.2.2.2.1, ⟨hk.1.2.2.2.2.1, ⟨hk.1.2.2.2.2.2.1, ⟨hk.1.2.2.2.2.2.2.1, ⟨hk.1.2.2.2.2.2.2.2.1, hk.1.2.2.2.2.2.2.2.2⟩⟩⟩⟩⟩⟩⟩⟩)))⟩; replace HO424 : Aside0 (Kd.V k54 54 w255 w.heap.size (fun k_ => k_ ≠ gb374 ∧ k_ ≠ gb375 ∧ k_ ≠ gb376 ∧ k_ ≠ gb393 ∧ k_ ≠ gb394 ∧ k_ ≠ gb429 ∧ k_ ≠ gb430 ∧ k_ ≠ gb443 ∧ k_ ≠ gb444) (.slice Ao220 t422.length co220) t422) := ⟨(by rw [hw]; exact (by (with_reducible repeat (first | apply Kd.V_alloc | apply Kd.V_drewN | apply Kd.V_drew)); exact Kd.V_mono (Kd.V_far (p := ⟨gb444, 3, none⟩) (Kd.V_far (p := ⟨gb444, 2, none⟩) (Kd.V_far (p := ⟨gb444, 1, none⟩) (Kd.V_far (p := ⟨gb444, 0, none⟩) (Kd.V_mono HO424.out (fun k_ hk => (⟨hk, hk.2.2.2.2.2.2.2.2⟩ : _ ∧ k_ ≠ gb444))) (fun _ hk => hk.2) (.bool false)) (fun _ hk => hk.2) (.int .i64 t440)) (fun _ hk => hk.2) (.int .i64 t441)) (fun _ hk => hk.2) (.int .i64 t442)) (fun _ hk => ⟨hk.1.1, ⟨hk.1.2.1, ⟨hk.1.2.2.1, ⟨hk.1.2.2.2.1, ⟨hk.1.2.2.2.2.1, ⟨hk.1.2.2.2.2.2.1, ⟨hk.1.2.2.2.2.2.2.1, ⟨hk.1.2.2.2.2.2.2.2.1, hk.1.2.2.2.2.2.2.2.2⟩⟩⟩⟩⟩⟩⟩⟩)))⟩; replace HO435 : Aside0 (Kd.V (Kd.int .i64) 3 w255 w.heap.size (fun k_ => k_ ≠ gb374 ∧ k_ ≠ gb375 ∧ k_ ≠ gb376 ∧ k_ ≠ gb393 ∧ k_ ≠ gb394 ∧ k_ ≠ gb429 ∧ k_ ≠ gb430 ∧ k_ ≠ gb443 ∧ k_ ≠ gb444) (.slice Ao244 t433.length co244) t433) := ⟨(by rw [hw]; exact (by (with_reducible repeat (first | apply Kd.V_alloc | apply Kd.V_drewN | apply Kd.V_drew)); exact Kd.V_mono (Kd.V_far (p := ⟨gb444, 3, none⟩) (Kd.V_far (p := ⟨gb444, 2, none⟩) (Kd.V_far (p := ⟨gb444, 1, none⟩) (Kd.V_far (p := ⟨gb444, 0, none⟩) (Kd.V_mono HO435.out (fun k_ hk => (⟨hk, hk.2.2.2.2.2.2.2.2⟩ : _ ∧ k_ ≠ gb444))) (fun _ hk => hk.2) (.bool false)) (fun _ hk => hk.2) (.int .i64 t440)) (fun _ hk => hk.2) (.int .i64 t441)) (fun _ hk => hk.2) (.int .i64 t442)) (fun _ hk => ⟨hk.1.1, ⟨hk.1.2.1, ⟨hk.1.2.2.1, ⟨hk.1.2.2.2.1, ⟨hk.1.2.2.2.2.1, ⟨hk.1.2.2.2.2.2.1, ⟨hk.1.2.2.2.2.2.2.1, ⟨hk.1.2.2.2.2.2.2.2.1, hk.1.2.2.2.2.2.2.2.2⟩⟩⟩⟩⟩⟩⟩⟩)))⟩; replace HO438 : Aside0 (Kd.V k54 54 w255 w.heap.size (fun k_ => k_ ≠ gb374 ∧ k_ ≠ gb375 ∧ k_ ≠ gb376 ∧ k_ ≠ gb393 ∧ k_ ≠ gb394 ∧ k_ ≠ gb429 ∧ k_ ≠ gb430 ∧ k_ ≠ gb443 ∧ k_ ≠ gb444) (.slice Ao245 t436.length co245) t436) := ⟨(by rw [hw]; exact (by (with_reducible repeat (first | apply Kd.V_alloc | apply Kd.V_drewN | apply Kd.V_drew)); exact Kd.V_mono (Kd.V_far (p := ⟨gb444, 3, none⟩) (Kd.V_far (p := ⟨gb444, 2, none⟩) (Kd.V_far (p := ⟨gb444, 1, none⟩) (Kd.V_far (p := ⟨gb444, 0, none⟩) (Kd.V_mono HO438.out (fun k_ hk => (⟨hk, hk.2.2.2.2.2.2.2.2⟩ : _ ∧ k_ ≠ gb444))) (fun _ hk => hk.2) (.bool false)) (fun _ hk => hk.2) (.int .i64 t440)) (fun _ hk => hk.2) (.int .i64 t441)) (fun _ hk => hk.2) (.int .i64 t442)) (fun _ hk => ⟨hk.1.1, ⟨hk.1.2.1, ⟨hk.1.2.2.1, ⟨hk.1.2.2.2.1, ⟨hk.1.2.2.2.2.1, ⟨hk.1.2.2.2.2.2.1, ⟨hk.1.2.2.2.2.2.2.1, ⟨hk.1.2.2.2.2.2.2.2.1, hk.1.2.2.2.2.2.2.2.2⟩⟩⟩⟩⟩⟩⟩⟩)))⟩; replace BK374 : Aside0 (w255.heap[gb374]? = some (.cells #[.int .i64 a0_0, .int .i64 a0_1, .int .i64 a0_2, .int .i64 a0_3] 23 (0, 0))) := ⟨(by rw [hw]; exact (by (with_reducible repeat (first | refine blk_drewN ?_ _ | refine blk_drew ?_ | refine blk_alloc ?_ _)); refine blk_far ?_ NB374_444.out _; (with_reducible repeat (first | refine blk_drewN ?_ _ | refine blk_drew ?_ | refine blk_alloc ?_ _)); refine blk_far ?_ NB374_444.out _; (with_reducible repeat (first | refine blk_drewN ?_ _ | refine blk_drew ?_ | refine blk_alloc ?_ _)); refine blk_far ?_ NB374_444.out _; (with_reducible repeat (first | refine blk_drewN ?_ _ | refine blk_drew ?_ | refine blk_alloc ?_ _)); refine blk_far ?_ NB374_444.out _; (with_reducible repeat (first | refine blk_drewN ?_ _ | refine blk_drew ?_ | refine blk_alloc ?_ _)); exact BK374.out))⟩; replace BK375 : Aside0 (w255.heap[gb375]? = some (.cells #[.int .i64 a1_0, .int .i64 a1_1, .slice A1_2 l1_2.length c1_2, .slice A1_3 l1_3.length c1_3] 27 (0, 0))) := ⟨(by rw [hw]; exact (by (with_reducible repeat (first | refine blk_drewN ?_ _ | refine blk_drew ?_ | refine blk_alloc ?_ _)); refine blk_far ?_ NB375_444.out _; (with_reducible repeat (first | refine blk_drewN ?_ _ | refine blk_drew ?_ | refine blk_alloc ?_ _)); refine blk_far ?_ NB375_444.out _; (with_reducible repeat (first | refine blk_drewN ?_ _ | refine blk_drew ?_ | refine blk_alloc ?_ _)); refine blk_far ?_ NB375_444.out _; (with_reducible repeat (first | refine blk_drewN ?_ _ | refine blk_drew ?_ | refine blk_alloc ?_ _)); refine blk_far ?_ NB375_444.out _; (with_reducible repeat (first | refine blk_drewN ?_ _ | refine blk_drew ?_ | refine blk_alloc ?_ _)); exact BK375.out))⟩; replace BK376 : Aside0 (w255.heap[gb376]? = some (.cells #[.int .i64 a2_0, .int .i64 a2_1] 28 (0, 0))) := ⟨(by rw [hw]; exact (by (with_reducible repeat (first | refine blk_drewN ?_ _ | refine blk_drew ?_ | refine blk_alloc ?_ _)); refine blk_far ?_ NB376_444.out _; (with_reducible repeat (first | refine blk_drewN ?_ _ | refine blk_drew ?_ | refine blk_alloc ?_ _)); refine blk_far ?_ NB376_444.out _; (with_reducible repeat (first | refine blk_drewN ?_ _ | refine blk_drew ?_ | refine blk_alloc ?_ _)); refine blk_far ?_ NB376_444.out _; (with_reducible repeat (first | refine blk_drewN ?_ _ | refine blk_drew ?_ | refine blk_alloc ?_ _)); refine blk_far ?_ NB376_444.out _; (with_reducible repeat (first | refine blk_drewN ?_ _ | refine blk_drew ?_ | refine blk_alloc ?_ _)); exact BK376.out))⟩; replace BK393 : Aside0 (w255.heap[gb393]? = some (.cells #[.int .i64 t381, .int .i64 t382, .slice Ao81 t383.length co81, .slice Ao82 t386.length co82] 27 (0, 0))) := ⟨(by rw [hw]; exact (by (with_reducible repeat (first | refine blk_drewN ?_ _ | refine blk_drew ?_ | refine blk_alloc ?_ _)); refine blk_far ?_ NB393_444.out _; (with_reducible repeat (first | refine blk_drewN ?_ _ | refine blk_drew ?_ | refine blk_alloc ?_ _)); refine blk_far ?_ NB393_444.out _; (with_reducible repeat (first | refine blk_drewN ?_ _ | refine blk_drew ?_ | refine blk_alloc ?_ _)); refine blk_far ?_ NB393_444.out _; (with_reducible repeat (first | refine blk_drewN ?_ _ | refine blk_drew ?_ | refine blk_alloc ?_ _)); refine blk_far ?_ NB393_444.out _; (with_reducible repeat (first | refine blk_drewN ?_ _ | refine blk_drew ?_ | refine blk_alloc ?_ _)); exact BK393.out))⟩; replace BK394 : Aside0 (w255.heap[gb394]? = some (.cells #[.bool false, .int .i64 t390, .int .i64 t391, .int .i64 t392] 32 (0, 0))) := ⟨(by rw [hw]; exact (by (with_reducible repeat (first | refine blk_drewN ?_ _ | refine blk_drew ?_ | refine blk_alloc ?_ _)); refine blk_far ?_ NB394_444.out _; (with_reducible repeat (first | refine blk_drewN ?_ _ | refine blk_drew ?_ | refine blk_alloc ?_ _)); refine blk_far ?_ NB394_444.out _; (with_reducible repeat (first | refine blk_drewN ?_ _ | refine blk_drew ?_ | refine blk_alloc ?_ _)); refine blk_far ?_ NB394_444.out _; (with_reducible repeat (first | refine blk_drewN ?_ _ | refine blk_drew ?_ | refine blk_alloc ?_ _)); refine blk_far ?_ NB394_444.out _; (with_reducible repeat (first | refine blk_drewN ?_ _ | refine blk_drew ?_ | refine blk_alloc ?_ _)); exact BK394.out))⟩; replace BK429 : Aside0 (w255.heap[gb429]? = some (.cells #[.int .i64 t417, .int .i64 t418, .slice Ao219 t419.length co219, .slice Ao220 t422.length co220] 27 (0, 0))) := ⟨(by rw [hw]; exact (by (with_reducible repeat (first | refine blk_drewN ?_ _ | refine blk_drew ?_ | refine blk_alloc ?_ _)); refine blk_far ?_ NB429_444.out _; (with_reducible repeat (first | refine blk_drewN ?_ _ | refine blk_drew ?_ | refine blk_alloc ?_ _)); refine blk_far ?_ NB429_444.out _; (with_reducible repeat (first | refine blk_drewN ?_ _ | refine blk_drew ?_ | refine blk_alloc ?_ _)); refine blk_far ?_ NB429_444.out _; (with_reducible repeat (first | refine blk_drewN ?_ _ | refine blk_drew ?_ | refine blk_alloc ?_ _)); refine blk_far ?_ NB429_444.out _; (with_reducible repeat (first | refine blk_drewN ?_ _ | refine blk_drew ?_ | refine blk_alloc ?_ _)); exact BK429.out))⟩; replace BK430 : Aside0 (w255.heap[gb430]? = some (.cells #[.bool true, .int .i64 t426, .int .i64 t427, .int .i64 t428] 32 (0, 0))) := ⟨(by rw [hw]; exact (by (with_reducible repeat (first | refine blk_drewN ?_ _ | refine blk_drew ?_ | refine blk_alloc ?_ _)); refine blk_far ?_ NB430_444.out _; (with_reducible repeat (first | refine blk_drewN ?_ _ | refine blk_drew ?_ | refine blk_alloc ?_ _)); refine blk_far ?_ NB430_444.out _; (with_reducible repeat (first | refine blk_drewN ?_ _ | refine blk_drew ?_ | refine blk_alloc ?_ _)); refine blk_far ?_ NB430_444.out _; (with_reducible repeat (first | refine blk_drewN ?_ _ | refine blk_drew ?_ | refine blk_alloc ?_ _)); refine blk_far ?_ NB430_444.out _; (with_reducible repeat (first | refine blk_drewN ?_ _ | refine blk_drew ?_ | refine blk_alloc ?_ _)); exact BK430.out))⟩; replace BK443 : Aside0 (w255.heap[gb443]? = some (.cells #[.int .i64 t431, .int .i64 t432, .slice Ao244 t433.length co244, .slice Ao245 t436.length co245] 27 (0, 0))) := ⟨(by rw [hw]; exact (by (with_reducible repeat (first | refine blk_drewN ?_ _ | refine blk_drew ?_ | refine blk_alloc ?_ _)); refine blk_far ?_ NB443_444.out _; (with_reducible repeat (first | refine blk_drewN ?_ _ | refine blk_drew ?_ | refine blk_alloc ?_ _)); refine blk_far ?_ NB443_444.out _; (with_reducible repeat (first | refine blk_drewN ?_ _ | refine blk_drew ?_ | refine blk_alloc ?_ _)); refine blk_far ?_ NB443_444.out _; (with_reducible repeat (first | refine blk_drewN ?_ _ | refine blk_drew ?_ | refine blk_alloc ?_ _)); refine blk_far ?_ NB443_444.out _; (with_reducible repeat (first | refine blk_drewN ?_ _ | refine blk_drew ?_ | refine blk_alloc ?_ _)); exact BK443.out))⟩; replace BK444 : Aside0 (w255.heap[gb444]? = some (.cells #[.bool false, .int .i64 t440, .int .i64 t441, .int .i64 t442] 32 (0, 0))) := ⟨(by rw [hw]; exact (by (with_reducible repeat (first | refine blk_drewN ?_ _ | refine blk_drew ?_ | refine blk_alloc ?_ _)); refine blk_put (cs := #[.bool false, .int .i64 t440, .int .i64 t441, .int .i64 0]) ?_ 3 _ rfl; (with_reducible repeat (first | refine blk_drewN ?_ _ | refine blk_drew ?_ | refine blk_alloc ?_ _)); refine blk_put (cs := #[.bool false, .int .i64 t440, .int .i64 0, .int .i64 0]) ?_ 2 _ rfl; (with_reducible repeat (first | refine blk_drewN ?_ _ | refine blk_drew ?_ | refine blk_alloc ?_ _)); refine blk_put (cs := #[.bool false, .int .i64 0, .int .i64 0, .int .i64 0]) ?_ 1 _ rfl; (with_reducible repeat (first | refine blk_drewN ?_ _ | refine blk_drew ?_ | refine blk_alloc ?_ _)); refine blk_put (cs := #[.bool false, .int .i64 0, .int .i64 0, .int .i64 0]) ?_ 0 _ rfl; (with_reducible repeat (first | refine blk_drewN ?_ _ | refine blk_drew ?_ | refine blk_alloc ?_ _)); exact BK444.out))⟩; replace HB : Aside0 (Below w.heap.size w w255) := ⟨(by rw [hw]; exact (bl HB))⟩; clear hw; obtain ⟨hcz256_0, hcz256_1, hcz256_2, hcz256_3⟩ := ce4 BK394; obtain ⟨hfz256_0, hfz256_1, hfz256_2, hfz256_3⟩ := fr4 BK394; obtain ⟨hcz257_0, hcz257_1, hcz257_2, hcz257_3⟩ := ce4 BK430; obtain ⟨hfz257_0, hfz257_1, hfz257_2, hfz257_3⟩ := fr4 BK430; obtain ⟨hcz258_0, hcz258_1, hcz258_2, hcz258_3⟩ := ce4 BK444; obtain ⟨hfz258_0, hfz258_1, hfz258_2, hfz258_3⟩ := fr4 BK444) | (go_at_call 9; (with_reducible refine (sandglasslaw12_live.calls kj147  t445 _ A196.out).mono ?_); rintro e w259 ⟨rfl, hb⟩; replace HO_394002 := vb HO_394002 hb; replace HO_394003 := vb HO_394003 hb; replace HO421 := vb HO421 hb; replace HO424 := vb HO424 hb; replace HO435 := vb HO435 hb; replace HO438 := vb HO438 hb; replace BK374 := Aside0.mk (blk_below (bo BK374) hb); replace BK375 := Aside0.mk (blk_below (bo BK375) hb); replace BK376 := Aside0.mk (blk_below (bo BK376) hb); replace BK393 := Aside0.mk (blk_below (bo BK393) hb); replace BK394 := Aside0.mk (blk_below (bo BK394) hb); replace BK429 := Aside0.mk (blk_below (bo BK429) hb); replace BK430 := Aside0.mk (blk_below (bo BK430) hb); replace BK443 := Aside0.mk (blk_below (bo BK443) hb); replace BK444 := Aside0.mk (blk_below (bo BK444) hb); replace HB := Aside0.mk (below_step (bl HB) hb); (try clear hb); (try clear hb2); (try clear hk); (try clear hi)))
                 go_ret
                 exact ⟨by first | (with_reducible rfl) | rfl | (simp [errW_none, errW_some] <;> rfl) | (simp [*, errW_none, errW_some] <;> rfl), bl HB⟩
               ·replace c194 := Bool.eq_false_iff.mpr c194
                subst c194
                rw [if_neg (show ¬ (false = true) by decide)] at H
                exact absurd H (by simp)
              ·rw [if_neg c193] at H
               exact absurd H (by simp)

end Go.Proofs.Ytalcmlgkdkbbaaa.Q
