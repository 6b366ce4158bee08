import Derived.Test.YtlnadabohaobnaaQ24d
namespace Go.Proofs.Ytlnadabohaobnaa.Q
open Go.RowKit Go.Proofs.Ytlnadabohaobnaa.Zip Go.Proofs.YtlnadabohaobnaaW.PrintWords Go.Proofs.YtlnadabohaobnaaW.PrintLast Go.Proofs.YtlnadabohaobnaaW.PrintMore
attribute [local go_sem] max2_int min2_int max_two min_two max_three min_three max_four min_four
set_option linter.unusedVariables false
set_option linter.unusedSimpArgs false

set_option maxHeartbeats 8000000 in
set_option maxRecDepth 100000 in
theorem sandglasslaw11_FixedMay.calls (k : Nat) (a0_0 : Int) (a0_1 : Int) (a0_2 : Int) (a0_3 : Int) (a1_0 : Int) (a1_1 : Int) (A1_2 : Option Addr) (c1_2 : Nat) (l1_2 : List Int) (A1_3 : Option Addr) (c1_3 : Nat) (l1_3 : List (S53)) (a2_0 : Int) (a2_1 : Int) (r : Bool) (w : World) (hr1_2 : Kd.C (Kd.int .i64) w A1_2 l1_2.length l1_2) (hc1_2 : l1_2.length ≤ c1_2) (hr1_3 : Kd.C k53 w A1_3 l1_3.length l1_3) (hc1_3 : l1_3.length ≤ c1_3) (h : sandglasslaw11_FixedMay.f k a0_0 a0_1 a0_2 a0_3 a1_0 a1_1 l1_2 l1_3 a2_0 a2_1 = some r) :
    Calls Try.prog 4 #[.agg #[.int .i64 a0_0, .int .i64 a0_1, .int .i64 a0_2, .int .i64 a0_3], .agg #[.int .i64 a1_0, .int .i64 a1_1, .slice A1_2 l1_2.length c1_2, .slice A1_3 l1_3.length c1_3], .agg #[.int .i64 a2_0, .int .i64 a2_1]] w fun e w' => e = .returned (.bool r) ∧ Below w.heap.size w w' := by
  have hu23 := Try.underlying23
  have hu27 := Try.underlying27
  have hu28 := Try.underlying28
  have hu32 := Try.underlying32
  have HR1_2 := Aside0.mk hr1_2
  have HC1_2 := Aside0.mk hc1_2
  clear hr1_2 hc1_2
  have HR1_3 := Aside0.mk hr1_3
  have HC1_3 := Aside0.mk hc1_3
  clear hr1_3 hc1_3
  have HB := Aside0.mk (Below.refl w.heap.size w)
  have H : ((sandglassref10_Few.f a1_0 a1_1 l1_2 l1_3).bind fun t280 => (if t280 = true then ((sandglassref11_May.f k a0_0 a0_1 a0_2 a0_3 a1_0 a1_1 l1_2 l1_3).bind fun t281 => (if t281 = true then (if a2_0 < 0 then (sandglasslaw11_FixedMay.j0 k a2_0 a2_1 true a0_0 a0_1 a0_2 a0_3 a1_0 a1_1 l1_2 l1_3) else (if a2_0 > 549755813888 then (sandglasslaw11_FixedMay.j0 k a2_0 a2_1 true a0_0 a0_1 a0_2 a0_3 a1_0 a1_1 l1_2 l1_3) else (if a1_0 > 549755813888 then (sandglasslaw11_FixedMay.j0 k a2_0 a2_1 true a0_0 a0_1 a0_2 a0_3 a1_0 a1_1 l1_2 l1_3) else ((sandglassref09_Weighs.f a2_1).bind fun t282 => (sandglasslaw11_FixedMay.j0 k a2_0 a2_1 (!t282) a0_0 a0_1 a0_2 a0_3 a1_0 a1_1 l1_2 l1_3))))) else (sandglasslaw11_FixedMay.j0 k a2_0 a2_1 true a0_0 a0_1 a0_2 a0_3 a1_0 a1_1 l1_2 l1_3))) else (sandglasslaw11_FixedMay.j0 k a2_0 a2_1 true a0_0 a0_1 a0_2 a0_3 a1_0 a1_1 l1_2 l1_3))) = some r := h
  clear h
  have HC4 := Aside0.mk H
  clear H
  go_enter Try.func4, Try.ntmps4
  try go_wp2_with (first | ((with_reducible refine gate_dst (N := 3) rfl ?_); (try (refine gate_guard (by rfl) ?_; dsimp only)); refine box_event ?hg (N := 3) ?hd (cs := #[.int .i64 a0_0, .int .i64 a0_1, .int .i64 a0_2, .int .i64 a0_3]) (t := 23) ?hr ?_; (case hd => rfl); (case hg => rfl); (case hr => first | (go_simp; done) | (go_simp; rfl)); intro gb277 hg w5 hbox hb; have BK277 := Aside0.mk (hbox); have GW277 := Aside0.mk ((by rw [hg]; exact (below_size (bl HB)) : w.heap.size ≤ gb277)); have GE277 := Aside0.mk ((by rw [hg]; exact (below_size (bl HB)) : w.heap.size ≤ gb277)); replace HB := Aside0.mk (below_step (bl HB) hb); clear hb hbox hg) | ((with_reducible refine gate_dst (N := 4) rfl ?_); (try (refine gate_guard (by rfl) ?_; dsimp only)); refine box_event ?hg (N := 4) ?hd (cs := #[.int .i64 a1_0, .int .i64 a1_1, .slice A1_2 l1_2.length c1_2, .slice A1_3 l1_3.length c1_3]) (t := 27) ?hr ?_; (case hd => rfl); (case hg => rfl); (case hr => first | (go_simp; done) | (go_simp; rfl)); intro gb278 hg w6 hbox hb; have BK278 := Aside0.mk (hbox); have GW278 := Aside0.mk ((by rw [hg]; exact (below_size (bl HB)) : w.heap.size ≤ gb278)); have GE278 := Aside0.mk ((by rw [hg]; exact (below_size (bl HB)) : w.heap.size ≤ gb278)); have NB277_278 := nb BK277 hg; have NB278_277 := bn BK277 hg; replace BK277 := Aside0.mk (blk_below (bo BK277) hb); replace HB := Aside0.mk (below_step (bl HB) hb); clear hb hbox hg) | ((with_reducible refine gate_dst (N := 5) rfl ?_); (try (refine gate_guard (by rfl) ?_; dsimp only)); refine box_event ?hg (N := 5) ?hd (cs := #[.int .i64 a2_0, .int .i64 a2_1]) (t := 28) ?hr ?_; (case hd => rfl); (case hg => rfl); (case hr => first | (go_simp; done) | (go_simp; rfl)); intro gb279 hg w7 hbox hb; have BK279 := Aside0.mk (hbox); have GW279 := Aside0.mk ((by rw [hg]; exact (below_size (bl HB)) : w.heap.size ≤ gb279)); have GE279 := Aside0.mk ((by rw [hg]; exact (below_size (bl HB)) : w.heap.size ≤ gb279)); have NB277_279 := nb BK277 hg; have NB279_277 := bn BK277 hg; have NB278_279 := nb BK278 hg; have NB279_278 := bn BK278 hg; replace BK277 := Aside0.mk (blk_below (bo BK277) hb); replace BK278 := Aside0.mk (blk_below (bo BK278) hb); replace HB := Aside0.mk (below_step (bl HB) hb); clear hb hbox hg))
  replace BK277 := Aside0.mk (blk_drew BK277.out)
  replace BK278 := Aside0.mk (blk_drew BK278.out)
  replace BK279 := Aside0.mk (blk_drew BK279.out)
  replace HB := Aside0.mk (below_drew1 HB.out)
  refine start_ (n := 6) (S := fun w' => w'.cell? ⟨gb279, 0, none⟩ = some (.int .i64 a2_0) ∧ w'.cell? ⟨gb279, 1, none⟩ = some (.int .i64 a2_1)) (ds := []) #[false, false, false, false, false, false] (by kernel_rfl) rfl rfl ⟨(blk_cell BK279.out 0).trans rfl, (blk_cell BK279.out 1).trans rfl⟩ (fun hHeld => ?_)
  generalize w7.drew = w8 at BK277 BK278 BK279 HB hHeld ⊢
  refine pureB 0 17 ?_
  refine pureB 2 19 ?_
  refine takeB' 1 18 hHeld ?_
  refine pureB 4 7 ?_
  refine takeB' 3 20 hHeld ?_
  refine pureB 5 8 ?_
  refine done_ (by kernel_rfl) ?_
  go_upto_region 2 with (fail)
  go_cut [47] (fun v47 wc => ∃ (kq : Nat) (x47_3 : Bool), v47 = .bool x47_3 ∧ Aside0 (sandglasslaw11_FixedMay.j0 kq a2_0 a2_1 x47_3 a0_0 a0_1 a0_2 a0_3 a1_0 a1_1 l1_2 l1_3 = some r) ∧ Aside0 (kq ≤ k) ∧ Aside0 (wc.heap[gb277]? = some (.cells #[.int .i64 a0_0, .int .i64 a0_1, .int .i64 a0_2, .int .i64 a0_3] 23 (0, 0))) ∧ Aside0 (wc.heap[gb278]? = some (.cells #[.int .i64 a1_0, .int .i64 a1_1, (.slice A1_2 l1_2.length c1_2), (.slice A1_3 l1_3.length c1_3)] 27 (0, 0))) ∧ Aside0 (wc.heap[gb279]? = some (.cells #[.int .i64 a2_0, .int .i64 a2_1] 28 (0, 0))) ∧ Aside0 (Below w.heap.size w wc))
  case first =>
    as_aux_lemma =>
    have H := HC4.out
    clear HC4
    replace H := Option.bind_eq_some_iff.mp H
    obtain ⟨t280, A90, H⟩ := H
    have A9 := Aside0.mk A90
    clear A90
    by_cases c10 : t280 = true
    · subst c10
      rw [if_pos rfl] at H
      replace H := Option.bind_eq_some_iff.mp H
      obtain ⟨t281, A110, H⟩ := H
      have A11 := Aside0.mk A110
      clear A110
      by_cases c12 : t281 = true
      · subst c12
        rw [if_pos rfl] at H
        by_cases c13 : a2_0 < 0
        · rw [if_pos c13] at H
          have c13b0 : decide (a2_0 < 0) = true := decide_eq_true c13
          clear c13
          (first | rw [c13b0] | (simp only [i64_w, i32_w]; rw [c13b0]) | skip)
          have H' := Aside0.mk H
          clear H
          have hnb14 := NB278_277.out
          have hnc14 := NB277_278.out
          have hnb15 := NB278_279.out
          have hnc15 := NB279_278.out
          obtain ⟨hcz16_0, hcz16_1, hcz16_2, hcz16_3⟩ := ce4 BK278
          obtain ⟨hfz16_0, hfz16_1, hfz16_2, hfz16_3⟩ := fr4 BK278
          go_wp2_with (first | ((with_reducible refine gate_callee (f := 8) rfl ?_); refine goesL_ (some 22) rfl rfl Try.func8 (by kernel_rfl) rfl #[.agg #[.int .i64 a1_0, .int .i64 a1_1, .slice A1_2 l1_2.length c1_2, .slice A1_3 l1_3.length c1_3]] rfl (by (try simp only [List.map_toArray, List.map_cons, List.map_nil]); first | done | rfl | (simp only [List.length_drop, List.length_take]; rfl)) ?_; (with_reducible refine (sandglassref10_Few.calls a1_0 a1_1 _ _ l1_2 _ _ l1_3 true _ ?side1 ?side2 ?side3 ?side4 A9.out).mono ?_); (case side1 => repeat (first | exact (Kd.C_below HR1_2.out HB.out) | (with_reducible refine Kd.C_alloc ?_ _) | (with_reducible refine Kd.C_drewN ?_ _) | (with_reducible refine Kd.C_drew ?_))); (case side2 => exact HC1_2.out); (case side3 => repeat (first | exact (Kd.C_below HR1_3.out HB.out) | (with_reducible refine Kd.C_alloc ?_ _) | (with_reducible refine Kd.C_drewN ?_ _) | (with_reducible refine Kd.C_drew ?_))); (case side4 => exact HC1_3.out); rintro e w17 ⟨rfl, hb⟩; refine ⟨_, rfl, ?_⟩; replace BK277 := Aside0.mk (blk_below (bo BK277) hb); replace BK278 := Aside0.mk (blk_below (bo BK278) hb); replace BK279 := Aside0.mk (blk_below (bo BK279) hb); replace HB := Aside0.mk (below_step (bl HB) hb); (try clear hb); (try clear hb2); (try clear hk); (try clear hi); have hnb18 := NB277_279.out; have hnc18 := NB279_277.out; obtain ⟨hcz19_0, hcz19_1, hcz19_2, hcz19_3⟩ := ce4 BK277; obtain ⟨hfz19_0, hfz19_1, hfz19_2, hfz19_3⟩ := fr4 BK277; obtain ⟨hcz20_0, hcz20_1, hcz20_2, hcz20_3⟩ := ce4 BK278; obtain ⟨hfz20_0, hfz20_1, hfz20_2, hfz20_3⟩ := fr4 BK278) | (go_at_call 14; (with_reducible refine (sandglassref11_May.calls k a0_0 a0_1 a0_2 a0_3 a1_0 a1_1 _ _ l1_2 _ _ l1_3 true _ ?side1 ?side2 ?side3 ?side4 A11.out).mono ?_); (case side1 => repeat (first | exact (Kd.C_below HR1_2.out HB.out) | (with_reducible refine Kd.C_alloc ?_ _) | (with_reducible refine Kd.C_drewN ?_ _) | (with_reducible refine Kd.C_drew ?_))); (case side2 => exact HC1_2.out); (case side3 => repeat (first | exact (Kd.C_below HR1_3.out HB.out) | (with_reducible refine Kd.C_alloc ?_ _) | (with_reducible refine Kd.C_drewN ?_ _) | (with_reducible refine Kd.C_drew ?_))); (case side4 => exact HC1_3.out); rintro e w21 ⟨rfl, hb⟩; replace BK277 := Aside0.mk (blk_below (bo BK277) hb); replace BK278 := Aside0.mk (blk_below (bo BK278) hb); replace BK279 := Aside0.mk (blk_below (bo BK279) hb); replace HB := Aside0.mk (below_step (bl HB) hb); (try clear hb); (try clear hb2); (try clear hk); (try clear hi)))
          go_meet
          case rel => exact ⟨_, (true), (by first | (with_reducible rfl) | rfl | (simp; done) | (simp [*]; done)), H', ⟨by first | omega | exact Nat.le_refl _⟩, ⟨bo BK277⟩, ⟨bo BK278⟩, ⟨bo BK279⟩, ⟨bl HB⟩⟩
        · rw [if_neg c13] at H
          have c13b0 : decide (a2_0 < 0) = false := decide_eq_false c13
          clear c13
          (first | rw [c13b0] | (simp only [i64_w, i32_w]; rw [c13b0]) | skip)
          by_cases c22 : a2_0 > 549755813888
          · rw [if_pos c22] at H
            have c22b0 : decide (549755813888 < a2_0) = true := decide_eq_true c22
            clear c22
            have H' := Aside0.mk H
            clear H
            have hnb23 := NB278_277.out
            have hnc23 := NB277_278.out
            have hnb24 := NB278_279.out
            have hnc24 := NB279_278.out
            obtain ⟨hcz25_0, hcz25_1, hcz25_2, hcz25_3⟩ := ce4 BK278
            obtain ⟨hfz25_0, hfz25_1, hfz25_2, hfz25_3⟩ := fr4 BK278
            go_wp2_with (first | ((with_reducible refine gate_callee (f := 8) rfl ?_); refine goesL_ (some 22) rfl rfl Try.func8 (by kernel_rfl) rfl #[.agg #[.int .i64 a1_0, .int .i64 a1_1, .slice A1_2 l1_2.length c1_2, .slice A1_3 l1_3.length c1_3]] rfl (by (try simp only [List.map_toArray, List.map_cons, List.map_nil]); first | done | rfl | (simp only [List.length_drop, List.length_take]; rfl)) ?_; (with_reducible refine (sandglassref10_Few.calls a1_0 a1_1 _ _ l1_2 _ _ l1_3 true _ ?side1 ?side2 ?side3 ?side4 A9.out).mono ?_); (case side1 => repeat (first | exact (Kd.C_below HR1_2.out HB.out) | (with_reducible refine Kd.C_alloc ?_ _) | (with_reducible refine Kd.C_drewN ?_ _) | (with_reducible refine Kd.C_drew ?_))); (case side2 => exact HC1_2.out); (case side3 => repeat (first | exact (Kd.C_below HR1_3.out HB.out) | (with_reducible refine Kd.C_alloc ?_ _) | (with_reducible refine Kd.C_drewN ?_ _) | (with_reducible refine Kd.C_drew ?_))); (case side4 => exact HC1_3.out); rintro e w26 ⟨rfl, hb⟩; refine ⟨_, rfl, ?_⟩; replace BK277 := Aside0.mk (blk_below (bo BK277) hb); replace BK278 := Aside0.mk (blk_below (bo BK278) hb); replace BK279 := Aside0.mk (blk_below (bo BK279) hb); replace HB := Aside0.mk (below_step (bl HB) hb); (try clear hb); (try clear hb2); (try clear hk); (try clear hi); have hnb27 := NB277_279.out; have hnc27 := NB279_277.out; obtain ⟨hcz28_0, hcz28_1, hcz28_2, hcz28_3⟩ := ce4 BK277; obtain ⟨hfz28_0, hfz28_1, hfz28_2, hfz28_3⟩ := fr4 BK277; obtain ⟨hcz29_0, hcz29_1, hcz29_2, hcz29_3⟩ := ce4 BK278; obtain ⟨hfz29_0, hfz29_1, hfz29_2, hfz29_3⟩ := fr4 BK278) | (go_at_call 14; (with_reducible refine (sandglassref11_May.calls k a0_0 a0_1 a0_2 a0_3 a1_0 a1_1 _ _ l1_2 _ _ l1_3 true _ ?side1 ?side2 ?side3 ?side4 A11.out).mono ?_); (case side1 => repeat (first | exact (Kd.C_below HR1_2.out HB.out) | (with_reducible refine Kd.C_alloc ?_ _) | (with_reducible refine Kd.C_drewN ?_ _) | (with_reducible refine Kd.C_drew ?_))); (case side2 => exact HC1_2.out); (case side3 => repeat (first | exact (Kd.C_below HR1_3.out HB.out) | (with_reducible refine Kd.C_alloc ?_ _) | (with_reducible refine Kd.C_drewN ?_ _) | (with_reducible refine Kd.C_drew ?_))); (case side4 => exact HC1_3.out); rintro e w30 ⟨rfl, hb⟩; replace BK277 := Aside0.mk (blk_below (bo BK277) hb); replace BK278 := Aside0.mk (blk_below (bo BK278) hb); replace BK279 := Aside0.mk (blk_below (bo BK279) hb); replace HB := Aside0.mk (below_step (bl HB) hb); (try clear hb); (try clear hb2); (try clear hk); (try clear hi)))
            go_meet
            case rel => exact ⟨_, (true), (by first | (with_reducible rfl) | rfl | (simp; done) | (simp [*]; done)), H', ⟨by first | omega | exact Nat.le_refl _⟩, ⟨bo BK277⟩, ⟨bo BK278⟩, ⟨bo BK279⟩, ⟨bl HB⟩⟩
          · rw [if_neg c22] at H
            have c22b0 : decide (549755813888 < a2_0) = false := decide_eq_false c22
            clear c22
            by_cases c31 : a1_0 > 549755813888
            · rw [if_pos c31] at H
              have c31b0 : decide (549755813888 < a1_0) = true := decide_eq_true c31
              clear c31
              have H' := Aside0.mk H
              clear H
              have hnb32 := NB278_277.out
              have hnc32 := NB277_278.out
              have hnb33 := NB278_279.out
              have hnc33 := NB279_278.out
              obtain ⟨hcz34_0, hcz34_1, hcz34_2, hcz34_3⟩ := ce4 BK278
              obtain ⟨hfz34_0, hfz34_1, hfz34_2, hfz34_3⟩ := fr4 BK278
              go_wp2_with (first | ((with_reducible refine gate_callee (f := 8) rfl ?_); refine goesL_ (some 22) rfl rfl Try.func8 (by kernel_rfl) rfl #[.agg #[.int .i64 a1_0, .int .i64 a1_1, .slice A1_2 l1_2.length c1_2, .slice A1_3 l1_3.length c1_3]] rfl (by (try simp only [List.map_toArray, List.map_cons, List.map_nil]); first | done | rfl | (simp only [List.length_drop, List.length_take]; rfl)) ?_; (with_reducible refine (sandglassref10_Few.calls a1_0 a1_1 _ _ l1_2 _ _ l1_3 true _ ?side1 ?side2 ?side3 ?side4 A9.out).mono ?_); (case side1 => repeat (first | exact (Kd.C_below HR1_2.out HB.out) | (with_reducible refine Kd.C_alloc ?_ _) | (with_reducible refine Kd.C_drewN ?_ _) | (with_reducible refine Kd.C_drew ?_))); (case side2 => exact HC1_2.out); (case side3 => repeat (first | exact (Kd.C_below HR1_3.out HB.out) | (with_reducible refine Kd.C_alloc ?_ _) | (with_reducible refine Kd.C_drewN ?_ _) | (with_reducible refine Kd.C_drew ?_))); (case side4 => exact HC1_3.out); rintro e w35 ⟨rfl, hb⟩; refine ⟨_, rfl, ?_⟩; replace BK277 := Aside0.mk (blk_below (bo BK277) hb); replace BK278 := Aside0.mk (blk_below (bo BK278) hb); replace BK279 := Aside0.mk (blk_below (bo BK279) hb); replace HB := Aside0.mk (below_step (bl HB) hb); (try clear hb); (try clear hb2); (try clear hk); (try clear hi); have hnb36 := NB277_279.out; have hnc36 := NB279_277.out; obtain ⟨hcz37_0, hcz37_1, hcz37_2, hcz37_3⟩ := ce4 BK277; obtain ⟨hfz37_0, hfz37_1, hfz37_2, hfz37_3⟩ := fr4 BK277; obtain ⟨hcz38_0, hcz38_1, hcz38_2, hcz38_3⟩ := ce4 BK278; obtain ⟨hfz38_0, hfz38_1, hfz38_2, hfz38_3⟩ := fr4 BK278) | (go_at_call 14; (with_reducible refine (sandglassref11_May.calls k a0_0 a0_1 a0_2 a0_3 a1_0 a1_1 _ _ l1_2 _ _ l1_3 true _ ?side1 ?side2 ?side3 ?side4 A11.out).mono ?_); (case side1 => repeat (first | exact (Kd.C_below HR1_2.out HB.out) | (with_reducible refine Kd.C_alloc ?_ _) | (with_reducible refine Kd.C_drewN ?_ _) | (with_reducible refine Kd.C_drew ?_))); (case side2 => exact HC1_2.out); (case side3 => repeat (first | exact (Kd.C_below HR1_3.out HB.out) | (with_reducible refine Kd.C_alloc ?_ _) | (with_reducible refine Kd.C_drewN ?_ _) | (with_reducible refine Kd.C_drew ?_))); (case side4 => exact HC1_3.out); rintro e w39 ⟨rfl, hb⟩; replace BK277 := Aside0.mk (blk_below (bo BK277) hb); replace BK278 := Aside0.mk (blk_below (bo BK278) hb); replace BK279 := Aside0.mk (blk_below (bo BK279) hb); replace HB := Aside0.mk (below_step (bl HB) hb); (try clear hb); (try clear hb2); (try clear hk); (try clear hi); obtain ⟨hcz40_0, hcz40_1, hcz40_2, hcz40_3⟩ := ce4 BK278; obtain ⟨hfz40_0, hfz40_1, hfz40_2, hfz40_3⟩ := fr4 BK278))
              go_meet
              case rel => exact ⟨_, (true), (by first | (with_reducible rfl) | rfl | (simp; done) | (simp [*]; done)), H', ⟨by first | omega | exact Nat.le_refl _⟩, ⟨bo BK277⟩, ⟨bo BK278⟩, ⟨bo BK279⟩, ⟨bl HB⟩⟩
            · rw [if_neg c31] at H
              have c31b0 : decide (549755813888 < a1_0) = false := decide_eq_false c31
              clear c31
              replace H := Option.bind_eq_some_iff.mp H
              obtain ⟨t282, A410, H⟩ := H
              have A41 := Aside0.mk A410
              clear A410
              have H' := Aside0.mk H
              clear H
              have hnb42 := NB278_277.out
              have hnc42 := NB277_278.out
              have hnb43 := NB278_279.out
              have hnc43 := NB279_278.out
              obtain ⟨hcz44_0, hcz44_1, hcz44_2, hcz44_3⟩ := ce4 BK278
              obtain ⟨hfz44_0, hfz44_1, hfz44_2, hfz44_3⟩ := fr4 BK278
              go_wp2_with (first | ((with_reducible refine gate_callee (f := 8) rfl ?_); refine goesL_ (some 22) rfl rfl Try.func8 (by kernel_rfl) rfl #[.agg #[.int .i64 a1_0, .int .i64 a1_1, .slice A1_2 l1_2.length c1_2, .slice A1_3 l1_3.length c1_3]] rfl (by (try simp only [List.map_toArray, List.map_cons, List.map_nil]); first | done | rfl | (simp only [List.length_drop, List.length_take]; rfl)) ?_; (with_reducible refine (sandglassref10_Few.calls a1_0 a1_1 _ _ l1_2 _ _ l1_3 true _ ?side1 ?side2 ?side3 ?side4 A9.out).mono ?_); (case side1 => repeat (first | exact (Kd.C_below HR1_2.out HB.out) | (with_reducible refine Kd.C_alloc ?_ _) | (with_reducible refine Kd.C_drewN ?_ _) | (with_reducible refine Kd.C_drew ?_))); (case side2 => exact HC1_2.out); (case side3 => repeat (first | exact (Kd.C_below HR1_3.out HB.out) | (with_reducible refine Kd.C_alloc ?_ _) | (with_reducible refine Kd.C_drewN ?_ _) | (with_reducible refine Kd.C_drew ?_))); (case side4 => exact HC1_3.out); rintro e w45 ⟨rfl, hb⟩; refine ⟨_, rfl, ?_⟩; replace BK277 := Aside0.mk (blk_below (bo BK277) hb); replace BK278 := Aside0.mk (blk_below (bo BK278) hb); replace BK279 := Aside0.mk (blk_below (bo BK279) hb); replace HB := Aside0.mk (below_step (bl HB) hb); (try clear hb); (try clear hb2); (try clear hk); (try clear hi); have hnb46 := NB277_279.out; have hnc46 := NB279_277.out; obtain ⟨hcz47_0, hcz47_1, hcz47_2, hcz47_3⟩ := ce4 BK277; obtain ⟨hfz47_0, hfz47_1, hfz47_2, hfz47_3⟩ := fr4 BK277; obtain ⟨hcz48_0, hcz48_1, hcz48_2, hcz48_3⟩ := ce4 BK278; obtain ⟨hfz48_0, hfz48_1, hfz48_2, hfz48_3⟩ := fr4 BK278) | (go_at_call 14; (with_reducible refine (sandglassref11_May.calls k a0_0 a0_1 a0_2 a0_3 a1_0 a1_1 _ _ l1_2 _ _ l1_3 true _ ?side1 ?side2 ?side3 ?side4 A11.out).mono ?_); (case side1 => repeat (first | exact (Kd.C_below HR1_2.out HB.out) | (with_reducible refine Kd.C_alloc ?_ _) | (with_reducible refine Kd.C_drewN ?_ _) | (with_reducible refine Kd.C_drew ?_))); (case side2 => exact HC1_2.out); (case side3 => repeat (first | exact (Kd.C_below HR1_3.out HB.out) | (with_reducible refine Kd.C_alloc ?_ _) | (with_reducible refine Kd.C_drewN ?_ _) | (with_reducible refine Kd.C_drew ?_))); (case side4 => exact HC1_3.out); rintro e w49 ⟨rfl, hb⟩; replace BK277 := Aside0.mk (blk_below (bo BK277) hb); replace BK278 := Aside0.mk (blk_below (bo BK278) hb); replace BK279 := Aside0.mk (blk_below (bo BK279) hb); replace HB := Aside0.mk (below_step (bl HB) hb); (try clear hb); (try clear hb2); (try clear hk); (try clear hi); obtain ⟨hcz50_0, hcz50_1, hcz50_2, hcz50_3⟩ := ce4 BK278; obtain ⟨hfz50_0, hfz50_1, hfz50_2, hfz50_3⟩ := fr4 BK278) | (go_at_call 19; (with_reducible refine (sandglassref09_Weighs.calls a2_1 t282 _ A41.out).mono ?_); rintro e w' ⟨rfl, ⟨nd, rfl⟩⟩))
              go_meet
              case rel => exact ⟨_, (!t282), (by first | (with_reducible rfl) | rfl | (simp; done) | (simp [*]; done)), H', ⟨by first | omega | exact Nat.le_refl _⟩, ⟨bo BK277⟩, ⟨bo BK278⟩, ⟨bo BK279⟩, ⟨bl HB⟩⟩
      · replace c12 := Bool.eq_false_iff.mpr c12
        subst c12
        rw [if_neg (show ¬ (false = true) by decide)] at H
        have H' := Aside0.mk H
        clear H
        have hnb51 := NB278_277.out
        have hnc51 := NB277_278.out
        have hnb52 := NB278_279.out
        have hnc52 := NB279_278.out
        obtain ⟨hcz53_0, hcz53_1, hcz53_2, hcz53_3⟩ := ce4 BK278
        obtain ⟨hfz53_0, hfz53_1, hfz53_2, hfz53_3⟩ := fr4 BK278
        go_wp2_with (first | ((with_reducible refine gate_callee (f := 8) rfl ?_); refine goesL_ (some 22) rfl rfl Try.func8 (by kernel_rfl) rfl #[.agg #[.int .i64 a1_0, .int .i64 a1_1, .slice A1_2 l1_2.length c1_2, .slice A1_3 l1_3.length c1_3]] rfl (by (try simp only [List.map_toArray, List.map_cons, List.map_nil]); first | done | rfl | (simp only [List.length_drop, List.length_take]; rfl)) ?_; (with_reducible refine (sandglassref10_Few.calls a1_0 a1_1 _ _ l1_2 _ _ l1_3 true _ ?side1 ?side2 ?side3 ?side4 A9.out).mono ?_); (case side1 => repeat (first | exact (Kd.C_below HR1_2.out HB.out) | (with_reducible refine Kd.C_alloc ?_ _) | (with_reducible refine Kd.C_drewN ?_ _) | (with_reducible refine Kd.C_drew ?_))); (case side2 => exact HC1_2.out); (case side3 => repeat (first | exact (Kd.C_below HR1_3.out HB.out) | (with_reducible refine Kd.C_alloc ?_ _) | (with_reducible refine Kd.C_drewN ?_ _) | (with_reducible refine Kd.C_drew ?_))); (case side4 => exact HC1_3.out); rintro e w54 ⟨rfl, hb⟩; refine ⟨_, rfl, ?_⟩; replace BK277 := Aside0.mk (blk_below (bo BK277) hb); replace BK278 := Aside0.mk (blk_below (bo BK278) hb); replace BK279 := Aside0.mk (blk_below (bo BK279) hb); replace HB := Aside0.mk (below_step (bl HB) hb); (try clear hb); (try clear hb2); (try clear hk); (try clear hi); have hnb55 := NB277_279.out; have hnc55 := NB279_277.out; obtain ⟨hcz56_0, hcz56_1, hcz56_2, hcz56_3⟩ := ce4 BK277; obtain ⟨hfz56_0, hfz56_1, hfz56_2, hfz56_3⟩ := fr4 BK277; obtain ⟨hcz57_0, hcz57_1, hcz57_2, hcz57_3⟩ := ce4 BK278; obtain ⟨hfz57_0, hfz57_1, hfz57_2, hfz57_3⟩ := fr4 BK278) | (go_at_call 14; (with_reducible refine (sandglassref11_May.calls k a0_0 a0_1 a0_2 a0_3 a1_0 a1_1 _ _ l1_2 _ _ l1_3 false _ ?side1 ?side2 ?side3 ?side4 A11.out).mono ?_); (case side1 => repeat (first | exact (Kd.C_below HR1_2.out HB.out) | (with_reducible refine Kd.C_alloc ?_ _) | (with_reducible refine Kd.C_drewN ?_ _) | (with_reducible refine Kd.C_drew ?_))); (case side2 => exact HC1_2.out); (case side3 => repeat (first | exact (Kd.C_below HR1_3.out HB.out) | (with_reducible refine Kd.C_alloc ?_ _) | (with_reducible refine Kd.C_drewN ?_ _) | (with_reducible refine Kd.C_drew ?_))); (case side4 => exact HC1_3.out); rintro e w58 ⟨rfl, hb⟩; replace BK277 := Aside0.mk (blk_below (bo BK277) hb); replace BK278 := Aside0.mk (blk_below (bo BK278) hb); replace BK279 := Aside0.mk (blk_below (bo BK279) hb); replace HB := Aside0.mk (below_step (bl HB) hb); (try clear hb); (try clear hb2); (try clear hk); (try clear hi)))
        go_meet
        case rel => exact ⟨_, (true), (by first | (with_reducible rfl) | rfl | (simp; done) | (simp [*]; done)), H', ⟨by first | omega | exact Nat.le_refl _⟩, ⟨bo BK277⟩, ⟨bo BK278⟩, ⟨bo BK279⟩, ⟨bl HB⟩⟩
    · replace c10 := Bool.eq_false_iff.mpr c10
      subst c10
      rw [if_neg (show ¬ (false = true) by decide)] at H
      have H' := Aside0.mk H
      clear H
      have hnb59 := NB278_277.out
      have hnc59 := NB277_278.out
      have hnb60 := NB278_279.out
      have hnc60 := NB279_278.out
      obtain ⟨hcz61_0, hcz61_1, hcz61_2, hcz61_3⟩ := ce4 BK278
      obtain ⟨hfz61_0, hfz61_1, hfz61_2, hfz61_3⟩ := fr4 BK278
      go_wp2_with (first | ((with_reducible refine gate_callee (f := 8) rfl ?_); refine goesL_ (some 22) rfl rfl Try.func8 (by kernel_rfl) rfl #[.agg #[.int .i64 a1_0, .int .i64 a1_1, .slice A1_2 l1_2.length c1_2, .slice A1_3 l1_3.length c1_3]] rfl (by (try simp only [List.map_toArray, List.map_cons, List.map_nil]); first | done | rfl | (simp only [List.length_drop, List.length_take]; rfl)) ?_; (with_reducible refine (sandglassref10_Few.calls a1_0 a1_1 _ _ l1_2 _ _ l1_3 false _ ?side1 ?side2 ?side3 ?side4 A9.out).mono ?_); (case side1 => repeat (first | exact (Kd.C_below HR1_2.out HB.out) | (with_reducible refine Kd.C_alloc ?_ _) | (with_reducible refine Kd.C_drewN ?_ _) | (with_reducible refine Kd.C_drew ?_))); (case side2 => exact HC1_2.out); (case side3 => repeat (first | exact (Kd.C_below HR1_3.out HB.out) | (with_reducible refine Kd.C_alloc ?_ _) | (with_reducible refine Kd.C_drewN ?_ _) | (with_reducible refine Kd.C_drew ?_))); (case side4 => exact HC1_3.out); rintro e w62 ⟨rfl, hb⟩; refine ⟨_, rfl, ?_⟩; replace BK277 := Aside0.mk (blk_below (bo BK277) hb); replace BK278 := Aside0.mk (blk_below (bo BK278) hb); replace BK279 := Aside0.mk (blk_below (bo BK279) hb); replace HB := Aside0.mk (below_step (bl HB) hb); (try clear hb); (try clear hb2); (try clear hk); (try clear hi)))
      go_meet
      case rel => exact ⟨_, (true), (by first | (with_reducible rfl) | rfl | (simp; done) | (simp [*]; done)), H', ⟨by first | omega | exact Nat.le_refl _⟩, ⟨bo BK277⟩, ⟨bo BK278⟩, ⟨bo BK279⟩, ⟨bl HB⟩⟩
  case rest =>
    as_aux_lemma =>
    clear HC4
    try clear c1
    try clear c2
    try clear p2
    try clear c3
    try clear c4
    try clear c5
    try clear c6
    try clear c8
    try clear c10
    try clear c12
    try clear c13
    try clear c13b0
    try clear c14
    try clear c15
    try clear c18
    try clear c22
    try clear c22b0
    try clear c23
    try clear c24
    try clear c27
    try clear c31
    try clear c31b0
    try clear c32
    try clear c33
    try clear c36
    try clear c42
    try clear c43
    try clear c46
    try clear c51
    try clear c52
    try clear c55
    try clear c59
    try clear c60
    try clear hcz16_0
    try clear hcz16_1
    try clear hcz16_2
    try clear hcz16_3
    try clear hcz19_0
    try clear hcz19_1
    try clear hcz19_2
    try clear hcz19_3
    try clear hcz20_0
    try clear hcz20_1
    try clear hcz20_2
    try clear hcz20_3
    try clear hcz25_0
    try clear hcz25_1
    try clear hcz25_2
    try clear hcz25_3
    try clear hcz28_0
    try clear hcz28_1
    try clear hcz28_2
    try clear hcz28_3
    try clear hcz29_0
    try clear hcz29_1
    try clear hcz29_2
    try clear hcz29_3
    try clear hcz34_0
    try clear hcz34_1
    try clear hcz34_2
    try clear hcz34_3
    try clear hcz37_0
    try clear hcz37_1
    try clear hcz37_2
    try clear hcz37_3
    try clear hcz38_0
    try clear hcz38_1
    try clear hcz38_2
    try clear hcz38_3
    try clear hcz40_0
    try clear hcz40_1
    try clear hcz40_2
    try clear hcz40_3
    try clear hcz44_0
    try clear hcz44_1
    try clear hcz44_2
    try clear hcz44_3
    try clear hcz47_0
    try clear hcz47_1
    try clear hcz47_2
    try clear hcz47_3
    try clear hcz48_0
    try clear hcz48_1
    try clear hcz48_2
    try clear hcz48_3
    try clear hcz50_0
    try clear hcz50_1
    try clear hcz50_2
    try clear hcz50_3
    try clear hcz53_0
    try clear hcz53_1
    try clear hcz53_2
    try clear hcz53_3
    try clear hcz56_0
    try clear hcz56_1
    try clear hcz56_2
    try clear hcz56_3
    try clear hcz57_0
    try clear hcz57_1
    try clear hcz57_2
    try clear hcz57_3
    try clear hcz61_0
    try clear hcz61_1
    try clear hcz61_2
    try clear hcz61_3
    try clear hfz16_0
    try clear hfz16_1
    try clear hfz16_2
    try clear hfz16_3
    try clear hfz19_0
    try clear hfz19_1
    try clear hfz19_2
    try clear hfz19_3
    try clear hfz20_0
    try clear hfz20_1
    try clear hfz20_2
    try clear hfz20_3
    try clear hfz25_0
    try clear hfz25_1
    try clear hfz25_2
    try clear hfz25_3
    try clear hfz28_0
    try clear hfz28_1
    try clear hfz28_2
    try clear hfz28_3
    try clear hfz29_0
    try clear hfz29_1
    try clear hfz29_2
    try clear hfz29_3
    try clear hfz34_0
    try clear hfz34_1
    try clear hfz34_2
    try clear hfz34_3
    try clear hfz37_0
    try clear hfz37_1
    try clear hfz37_2
    try clear hfz37_3
    try clear hfz38_0
    try clear hfz38_1
    try clear hfz38_2
    try clear hfz38_3
    try clear hfz40_0
    try clear hfz40_1
    try clear hfz40_2
    try clear hfz40_3
    try clear hfz44_0
    try clear hfz44_1
    try clear hfz44_2
    try clear hfz44_3
    try clear hfz47_0
    try clear hfz47_1
    try clear hfz47_2
    try clear hfz47_3
    try clear hfz48_0
    try clear hfz48_1
    try clear hfz48_2
    try clear hfz48_3
    try clear hfz50_0
    try clear hfz50_1
    try clear hfz50_2
    try clear hfz50_3
    try clear hfz53_0
    try clear hfz53_1
    try clear hfz53_2
    try clear hfz53_3
    try clear hfz56_0
    try clear hfz56_1
    try clear hfz56_2
    try clear hfz56_3
    try clear hfz57_0
    try clear hfz57_1
    try clear hfz57_2
    try clear hfz57_3
    try clear hfz61_0
    try clear hfz61_1
    try clear hfz61_2
    try clear hfz61_3
    obtain ⟨kq, x47_3, rfl, HA, HJ3, BK277, BK278, BK279, HB⟩ := hcut
    cases kq with
    | zero => exact absurd HA.out (by simp [sandglasslaw11_FixedMay.j0])
    | succ kj3 =>
      have H := HA.out
      clear HA
      simp only [sandglasslaw11_FixedMay.j0] at H
      by_cases c63 : x47_3 = true
      · subst c63
        rw [if_pos rfl] at H
        replace H := Option.bind_eq_some_iff.mp H
        obtain ⟨t283, A640, H⟩ := H
        have A64 := Aside0.mk A640
        clear A640
        obtain rfl := Option.some.inj H
        go_wp2_with (first | ((with_reducible refine gate_callee (f := 9) rfl ?_); refine goesL_ (some 48) rfl rfl Try.func9 (by kernel_rfl) rfl #[] rfl (by (try simp only [List.map_toArray, List.map_cons, List.map_nil]); first | done | rfl | (simp only [List.length_drop, List.length_take]; rfl)) ?_; (with_reducible refine (sandglasslaw11_live.calls kj3  t283 _ A64.out).mono ?_); rintro e w65 ⟨rfl, hb⟩; refine ⟨_, rfl, ?_⟩; replace BK277 := Aside0.mk (blk_below (bo BK277) hb); replace BK278 := Aside0.mk (blk_below (bo BK278) hb); replace BK279 := Aside0.mk (blk_below (bo BK279) hb); replace HB := Aside0.mk (below_step (bl HB) hb); (try clear hb); (try clear hb2); (try clear hk); (try clear hi)))
        go_ret
        exact ⟨by first | (with_reducible rfl) | rfl | (simp [errW_none, errW_some] <;> rfl) | (simp [*, errW_none, errW_some] <;> rfl), bl HB⟩
      · replace c63 := Bool.eq_false_iff.mpr c63
        subst c63
        rw [if_neg (show ¬ (false = true) by decide)] at H
        replace H := Option.bind_eq_some_iff.mp H
        obtain ⟨⟨t284, t285, t286, t289, t292, t293, t294, t295⟩, A660, H⟩ := H
        have A66 := Aside0.mk A660
        clear A660
        have HC67 := Aside0.mk H
        clear H
        have hnb68 := NB277_278.out
        have hnc68 := NB278_277.out
        have hnb69 := NB277_279.out
        have hnc69 := NB279_277.out
        obtain ⟨hcz70_0, hcz70_1, hcz70_2, hcz70_3⟩ := ce4 BK277
        obtain ⟨hfz70_0, hfz70_1, hfz70_2, hfz70_3⟩ := fr4 BK277
        have hnb71 := NB278_279.out
        have hnc71 := NB279_278.out
        obtain ⟨hcz72_0, hcz72_1, hcz72_2, hcz72_3⟩ := ce4 BK278
        obtain ⟨hfz72_0, hfz72_1, hfz72_2, hfz72_3⟩ := fr4 BK278
        go_upto_region 5 with (first | ((with_reducible refine gate_callee (f := 10) rfl ?_); refine goesL_ (some 54) rfl rfl Try.func10 (by kernel_rfl) rfl #[.agg #[.int .i64 a0_0, .int .i64 a0_1, .int .i64 a0_2, .int .i64 a0_3], .agg #[.int .i64 a1_0, .int .i64 a1_1, .slice A1_2 l1_2.length c1_2, .slice A1_3 l1_3.length c1_3], .int .i64 a2_0, .int .i64 a2_1] rfl (by (try simp only [List.map_toArray, List.map_cons, List.map_nil]); first | done | rfl | (simp only [List.length_drop, List.length_take]; rfl)) ?_; (with_reducible refine (fixed_Ask.calls kj3 a0_0 a0_1 a0_2 a0_3 a1_0 a1_1 (fun k_ => k_ < w.heap.size) _ _ l1_2 (fun k_ => k_ < w.heap.size) _ _ l1_3 a2_0 a2_1 t284 t285 t286 t289 t292 t293 t294 t295 _ ?side1 ?side2 A66.out).mono ?_); (case side1 => exact Kd.V_mk HC1_2.out (Kd.F_below (Kd.C_F (Kd.heap_int .i64) HR1_2.out) (bl HB))); (case side2 => exact Kd.V_mk HC1_3.out (Kd.F_below (Kd.C_F k53_heap HR1_3.out) (bl HB))); rintro e w73 ⟨v287, v290, rfl, ho0, ho1, hb⟩; refine ⟨_, rfl, ?_⟩; have HO288 := Aside0.mk (Kd.V_lower (Kd.V_mono (ok' := fun k_ => k_ ≠ gb277 ∧ k_ ≠ gb278 ∧ k_ ≠ gb279) ho0 (fun k_ hk_ => ⟨Or.elim hk_ (fun hs_ => Or.elim hs_ (fun hs_ => fun e_ => Nat.not_le.2 hs_ (by rw [e_]; exact GW277.out)) (fun hs_ => fun e_ => Nat.not_le.2 hs_ (by rw [e_]; exact GW277.out))) (fun hn_ => (Kd.freshB (bo BK277) k_ hn_)), Or.elim hk_ (fun hs_ => Or.elim hs_ (fun hs_ => fun e_ => Nat.not_le.2 hs_ (by rw [e_]; exact GW278.out)) (fun hs_ => fun e_ => Nat.not_le.2 hs_ (by rw [e_]; exact GW278.out))) (fun hn_ => (Kd.freshB (bo BK278) k_ hn_)), Or.elim hk_ (fun hs_ => Or.elim hs_ (fun hs_ => fun e_ => Nat.not_le.2 hs_ (by rw [e_]; exact GW279.out)) (fun hs_ => fun e_ => Nat.not_le.2 hs_ (by rw [e_]; exact GW279.out))) (fun hn_ => (Kd.freshB (bo BK279) k_ hn_))⟩)) (below_size (bl HB))); have HO291 := Aside0.mk (Kd.V_lower (Kd.V_mono (ok' := fun k_ => k_ ≠ gb277 ∧ k_ ≠ gb278 ∧ k_ ≠ gb279) ho1 (fun k_ hk_ => ⟨Or.elim hk_ (fun hs_ => Or.elim hs_ (fun hs_ => fun e_ => Nat.not_le.2 hs_ (by rw [e_]; exact GW277.out)) (fun hs_ => fun e_ => Nat.not_le.2 hs_ (by rw [e_]; exact GW277.out))) (fun hn_ => (Kd.freshB (bo BK277) k_ hn_)), Or.elim hk_ (fun hs_ => Or.elim hs_ (fun hs_ => fun e_ => Nat.not_le.2 hs_ (by rw [e_]; exact GW278.out)) (fun hs_ => fun e_ => Nat.not_le.2 hs_ (by rw [e_]; exact GW278.out))) (fun hn_ => (Kd.freshB (bo BK278) k_ hn_)), Or.elim hk_ (fun hs_ => Or.elim hs_ (fun hs_ => fun e_ => Nat.not_le.2 hs_ (by rw [e_]; exact GW279.out)) (fun hs_ => fun e_ => Nat.not_le.2 hs_ (by rw [e_]; exact GW279.out))) (fun hn_ => (Kd.freshB (bo BK279) k_ hn_))⟩)) (below_size (bl HB))); replace BK277 := Aside0.mk (blk_below (bo BK277) hb); replace BK278 := Aside0.mk (blk_below (bo BK278) hb); replace BK279 := Aside0.mk (blk_below (bo BK279) hb); replace HB := Aside0.mk (below_step (bl HB) hb); (try clear hb); (try clear hb2); (try clear hk); (try clear hi); (try clear ho0); (try clear ho1)) | ((with_reducible refine gate_dst (N := 9) rfl ?_); (try (refine gate_guard (by rfl) ?_; dsimp only)); refine box_event ?hg (N := 9) ?hd (cs := #[.int .i64 0, .int .i64 0, .slice none 0 0, .slice none 0 0]) (t := 27) ?hr ?_; (case hd => rfl); (case hg => rfl); (case hr => first | (go_simp; done) | (go_simp; rfl)); intro gb296 hg w74 hbox hb; have BK296 := Aside0.mk (hbox); have GW296 := Aside0.mk ((by rw [hg]; exact (below_size (bl HB)) : w.heap.size ≤ gb296)); have GE296 := Aside0.mk ((by rw [hg]; exact (below_size (bl HB)) : w.heap.size ≤ gb296)); have NB277_296 := nb BK277 hg; have NB296_277 := bn BK277 hg; have NB278_296 := nb BK278 hg; have NB296_278 := bn BK278 hg; have NB279_296 := nb BK279 hg; have NB296_279 := bn BK279 hg; replace HO288 := ve HO288 hg hb; replace HO291 := ve HO291 hg hb; replace BK277 := Aside0.mk (blk_below (bo BK277) hb); replace BK278 := Aside0.mk (blk_below (bo BK278) hb); replace BK279 := Aside0.mk (blk_below (bo BK279) hb); replace HB := Aside0.mk (below_step (bl HB) hb); clear hb hbox hg) | ((with_reducible refine gate_dst (N := 10) rfl ?_); (try (refine gate_guard (by rfl) ?_; dsimp only)); refine box_event ?hg (N := 10) ?hd (cs := #[.bool false, .int .i64 0, .int .i64 0, .int .i64 0]) (t := 32) ?hr ?_; (case hd => rfl); (case hg => rfl); (case hr => first | (go_simp; done) | (go_simp; rfl)); intro gb297 hg w75 hbox hb; have BK297 := Aside0.mk (hbox); have GW297 := Aside0.mk ((by rw [hg]; exact (below_size (bl HB)) : w.heap.size ≤ gb297)); have GE297 := Aside0.mk ((by rw [hg]; exact (below_size (bl HB)) : w.heap.size ≤ gb297)); have NB277_297 := nb BK277 hg; have NB297_277 := bn BK277 hg; have NB278_297 := nb BK278 hg; have NB297_278 := bn BK278 hg; have NB279_297 := nb BK279 hg; have NB297_279 := bn BK279 hg; have NB296_297 := nb BK296 hg; have NB297_296 := bn BK296 hg; replace HO288 := ve HO288 hg hb; replace HO291 := ve HO291 hg hb; replace BK277 := Aside0.mk (blk_below (bo BK277) hb); replace BK278 := Aside0.mk (blk_below (bo BK278) hb); replace BK279 := Aside0.mk (blk_below (bo BK279) hb); replace BK296 := Aside0.mk (blk_below (bo BK296) hb); replace HB := Aside0.mk (below_step (bl HB) hb); clear hb hbox hg; have hnb76 := NB296_277.out; have hnc76 := NB277_296.out; have hnb77 := NB296_278.out; have hnc77 := NB278_296.out; have hnb78 := NB296_279.out; have hnc78 := NB279_296.out; have hnb79 := NB296_297.out; have hnc79 := NB297_296.out; obtain ⟨hcz80_0, hcz80_1, hcz80_2, hcz80_3⟩ := ce4 BK296; obtain ⟨hfz80_0, hfz80_1, hfz80_2, hfz80_3⟩ := fr4 BK296; obtain ⟨Ao81, co81, eo81⟩ := Kd.V_slice HO288.out; subst eo81; obtain ⟨Ao82, co82, eo82⟩ := Kd.V_slice HO291.out; subst eo82) | ((with_reducible refine gate_store (t := 27) (p := 9) rfl ?_); refine store_event (t := 27) (p := 9) (v := ?vo_w83) (w1 := ((((w75.setCell ⟨gb296, 0, none⟩ (.int .i64 t284)).setCell ⟨gb296, 1, none⟩ (.int .i64 t285)).setCell ⟨gb296, 2, none⟩ (.slice Ao81 t286.length co81)).setCell ⟨gb296, 3, none⟩ (.slice Ao82 t289.length co82))) ?hg ?ho ?hn ?hr ?_; (case ho => rfl); (case hg => rfl); (case hn => rfl); (case hr => first | (go_simp; done) | (go_simp; rfl)); intro w83 hw; replace HO288 : Aside0 (Kd.V (Kd.int .i64) 3 w83 w.heap.size (fun k_ => k_ ≠ gb277 ∧ k_ ≠ gb278 ∧ k_ ≠ gb279 ∧ k_ ≠ gb296 ∧ k_ ≠ gb297) (.slice Ao81 t286.length co81) t286) := ⟨(by rw [hw]; exact (by (with_reducible repeat (first | apply Kd.V_alloc | apply Kd.V_drewN | apply Kd.V_drew)); exact Kd.V_mono (Kd.V_far (p := ⟨gb296, 3, none⟩) (Kd.V_far (p := ⟨gb296, 2, none⟩) (Kd.V_far (p := ⟨gb296, 1, none⟩) (Kd.V_far (p := ⟨gb296, 0, none⟩) (Kd.V_mono HO288.out (fun k_ hk => (⟨hk, hk.1.2⟩ : _ ∧ k_ ≠ gb296))) (fun _ hk => hk.2) (.int .i64 t284)) (fun _ hk => hk.2) (.int .i64 t285)) (fun _ hk => hk.2) (.slice Ao81 t286.length co81)) (fun _ hk => hk.2) (.slice Ao82 t289.length co82)) (fun _ hk => ⟨hk.1.1.1.1, ⟨hk.1.1.1.2.1, ⟨hk.1.1.1.2.2, ⟨hk.1.1.2, hk.1.2⟩⟩⟩⟩)))⟩; replace HO291 : Aside0 (Kd.V k53 53 w83 w.heap.size (fun k_ => k_ ≠ gb277 ∧ k_ ≠ gb278 ∧ k_ ≠ gb279 ∧ k_ ≠ gb296 ∧ k_ ≠ gb297) (.slice Ao82 t289.length co82) t289) := ⟨(by rw [hw]; exact (by (with_reducible repeat (first | apply Kd.V_alloc | apply Kd.V_drewN | apply Kd.V_drew)); exact Kd.V_mono (Kd.V_far (p := ⟨gb296, 3, none⟩) (Kd.V_far (p := ⟨gb296, 2, none⟩) (Kd.V_far (p := ⟨gb296, 1, none⟩) (Kd.V_far (p := ⟨gb296, 0, none⟩) (Kd.V_mono HO291.out (fun k_ hk => (⟨hk, hk.1.2⟩ : _ ∧ k_ ≠ gb296))) (fun _ hk => hk.2) (.int .i64 t284)) (fun _ hk => hk.2) (.int .i64 t285)) (fun _ hk => hk.2) (.slice Ao81 t286.length co81)) (fun _ hk => hk.2) (.slice Ao82 t289.length co82)) (fun _ hk => ⟨hk.1.1.1.1, ⟨hk.1.1.1.2.1, ⟨hk.1.1.1.2.2, ⟨hk.1.1.2, hk.1.2⟩⟩⟩⟩)))⟩; replace BK277 : Aside0 (w83.heap[gb277]? = some (.cells #[.int .i64 a0_0, .int .i64 a0_1, .int .i64 a0_2, .int .i64 a0_3] 23 (0, 0))) := ⟨(by rw [hw]; exact (by (with_reducible repeat (first | refine blk_drewN ?_ _ | refine blk_drew ?_ | refine blk_alloc ?_ _)); refine blk_far ?_ NB277_296.out _; (with_reducible repeat (first | refine blk_drewN ?_ _ | refine blk_drew ?_ | refine blk_alloc ?_ _)); refine blk_far ?_ NB277_296.out _; (with_reducible repeat (first | refine blk_drewN ?_ _ | refine blk_drew ?_ | refine blk_alloc ?_ _)); refine blk_far ?_ NB277_296.out _; (with_reducible repeat (first | refine blk_drewN ?_ _ | refine blk_drew ?_ | refine blk_alloc ?_ _)); refine blk_far ?_ NB277_296.out _; (with_reducible repeat (first | refine blk_drewN ?_ _ | refine blk_drew ?_ | refine blk_alloc ?_ _)); exact BK277.out))⟩; replace BK278 : Aside0 (w83.heap[gb278]? = some (.cells #[.int .i64 a1_0, .int .i64 a1_1, .slice A1_2 l1_2.length c1_2, .slice A1_3 l1_3.length c1_3] 27 (0, 0))) := ⟨(by rw [hw]; exact (by (with_reducible repeat (first | refine blk_drewN ?_ _ | refine blk_drew ?_ | refine blk_alloc ?_ _)); refine blk_far ?_ NB278_296.out _; (with_reducible repeat (first | refine blk_drewN ?_ _ | refine blk_drew ?_ | refine blk_alloc ?_ _)); refine blk_far ?_ NB278_296.out _; (with_reducible repeat (first | refine blk_drewN ?_ _ | refine blk_drew ?_ | refine blk_alloc ?_ _)); refine blk_far ?_ NB278_296.out _; (with_reducible repeat (first | refine blk_drewN ?_ _ | refine blk_drew ?_ | refine blk_alloc ?_ _)); refine blk_far ?_ NB278_296.out _; (with_reducible repeat (first | refine blk_drewN ?_ _ | refine blk_drew ?_ | refine blk_alloc ?_ _)); exact BK278.out))⟩; replace BK279 : Aside0 (w83.heap[gb279]? = some (.cells #[.int .i64 a2_0, .int .i64 a2_1] 28 (0, 0))) := ⟨(by rw [hw]; exact (by (with_reducible repeat (first | refine blk_drewN ?_ _ | refine blk_drew ?_ | refine blk_alloc ?_ _)); refine blk_far ?_ NB279_296.out _; (with_reducible repeat (first | refine blk_drewN ?_ _ | refine blk_drew ?_ | refine blk_alloc ?_ _)); refine blk_far ?_ NB279_296.out _; (with_reducible repeat (first | refine blk_drewN ?_ _ | refine blk_drew ?_ | refine blk_alloc ?_ _)); refine blk_far ?_ NB279_296.out _; (with_reducible repeat (first | refine blk_drewN ?_ _ | refine blk_drew ?_ | refine blk_alloc ?_ _)); refine blk_far ?_ NB279_296.out _; (with_reducible repeat (first | refine blk_drewN ?_ _ | refine blk_drew ?_ | refine blk_alloc ?_ _)); exact BK279.out))⟩; replace BK296 : Aside0 (w83.heap[gb296]? = some (.cells #[.int .i64 t284, .int .i64 t285, .slice Ao81 t286.length co81, .slice Ao82 t289.length co82] 27 (0, 0))) := ⟨(by rw [hw]; exact (by (with_reducible repeat (first | refine blk_drewN ?_ _ | refine blk_drew ?_ | refine blk_alloc ?_ _)); refine blk_put (cs := #[.int .i64 t284, .int .i64 t285, .slice Ao81 t286.length co81, .slice none 0 0]) ?_ 3 _ rfl; (with_reducible repeat (first | refine blk_drewN ?_ _ | refine blk_drew ?_ | refine blk_alloc ?_ _)); refine blk_put (cs := #[.int .i64 t284, .int .i64 t285, .slice none 0 0, .slice none 0 0]) ?_ 2 _ rfl; (with_reducible repeat (first | refine blk_drewN ?_ _ | refine blk_drew ?_ | refine blk_alloc ?_ _)); refine blk_put (cs := #[.int .i64 t284, .int .i64 0, .slice none 0 0, .slice none 0 0]) ?_ 1 _ rfl; (with_reducible repeat (first | refine blk_drewN ?_ _ | refine blk_drew ?_ | refine blk_alloc ?_ _)); refine blk_put (cs := #[.int .i64 0, .int .i64 0, .slice none 0 0, .slice none 0 0]) ?_ 0 _ rfl; (with_reducible repeat (first | refine blk_drewN ?_ _ | refine blk_drew ?_ | refine blk_alloc ?_ _)); exact BK296.out))⟩; replace BK297 : Aside0 (w83.heap[gb297]? = some (.cells #[.bool false, .int .i64 0, .int .i64 0, .int .i64 0] 32 (0, 0))) := ⟨(by rw [hw]; exact (by (with_reducible repeat (first | refine blk_drewN ?_ _ | refine blk_drew ?_ | refine blk_alloc ?_ _)); refine blk_far ?_ NB297_296.out _; (with_reducible repeat (first | refine blk_drewN ?_ _ | refine blk_drew ?_ | refine blk_alloc ?_ _)); refine blk_far ?_ NB297_296.out _; (with_reducible repeat (first | refine blk_drewN ?_ _ | refine blk_drew ?_ | refine blk_alloc ?_ _)); refine blk_far ?_ NB297_296.out _; (with_reducible repeat (first | refine blk_drewN ?_ _ | refine blk_drew ?_ | refine blk_alloc ?_ _)); refine blk_far ?_ NB297_296.out _; (with_reducible repeat (first | refine blk_drewN ?_ _ | refine blk_drew ?_ | refine blk_alloc ?_ _)); exact BK297.out))⟩; replace HB : Aside0 (Below w.heap.size w w83) := ⟨(by rw [hw]; exact (bl HB))⟩; clear hw; have hnb84 := NB297_277.out; have hnc84 := NB277_297.out; have hnb85 := NB297_278.out; have hnc85 := NB278_297.out; have hnb86 := NB297_279.out; have hnc86 := NB279_297.out; obtain ⟨hcz87_0, hcz87_1, hcz87_2, hcz87_3⟩ := ce4 BK297; obtain ⟨hfz87_0, hfz87_1, hfz87_2, hfz87_3⟩ := fr4 BK297) | ((with_reducible refine gate_store (t := 32) (p := 10) rfl ?_); refine store_event (t := 32) (p := 10) (v := ?vo_w88) (w1 := ((((w83.setCell ⟨gb297, 0, none⟩ (.bool t292)).setCell ⟨gb297, 1, none⟩ (.int .i64 t293)).setCell ⟨gb297, 2, none⟩ (.int .i64 t294)).setCell ⟨gb297, 3, none⟩ (.int .i64 t295))) ?hg ?ho ?hn ?hr ?_; (case ho => rfl); (case hg => rfl); (case hn => rfl); (case hr => first | (go_simp; done) | (go_simp; rfl)); intro w88 hw; replace HO288 : Aside0 (Kd.V (Kd.int .i64) 3 w88 w.heap.size (fun k_ => k_ ≠ gb277 ∧ k_ ≠ gb278 ∧ k_ ≠ gb279 ∧ k_ ≠ gb296 ∧ k_ ≠ gb297) (.slice Ao81 t286.length co81) t286) := ⟨(by rw [hw]; exact (by (with_reducible repeat (first | apply Kd.V_alloc | apply Kd.V_drewN | apply Kd.V_drew)); exact Kd.V_mono (Kd.V_far (p := ⟨gb297, 3, none⟩) (Kd.V_far (p := ⟨gb297, 2, none⟩) (Kd.V_far (p := ⟨gb297, 1, none⟩) (Kd.V_far (p := ⟨gb297, 0, none⟩) (Kd.V_mono HO288.out (fun k_ hk => (⟨hk, hk.2.2.2.2⟩ : _ ∧ k_ ≠ gb297))) (fun _ hk => hk.2) (.bool t292)) (fun _ hk => hk.2) (.int .i64 t293)) (fun _ hk => hk.2) (.int .i64 t294)) (fun _ hk => hk.2) (.int .i64 t295)) (fun _ hk => ⟨hk.1.1, ⟨hk.1.2.1, ⟨hk.1.2.2.1, ⟨hk.1.2.2.2.1, hk.1.2.2.2.2⟩⟩⟩⟩)))⟩; replace HO291 : Aside0 (Kd.V k53 53 w88 w.heap.size (fun k_ => k_ ≠ gb277 ∧ k_ ≠ gb278 ∧ k_ ≠ gb279 ∧ k_ ≠ gb296 ∧ k_ ≠ gb297) (.slice Ao82 t289.length co82) t289) := ⟨(by rw [hw]; exact (by (with_reducible repeat (first | apply Kd.V_alloc | apply Kd.V_drewN | apply Kd.V_drew)); exact Kd.V_mono (Kd.V_far (p := ⟨gb297, 3, none⟩) (Kd.V_far (p := ⟨gb297, 2, none⟩) (Kd.V_far (p := ⟨gb297, 1, none⟩) (Kd.V_far (p := ⟨gb297, 0, none⟩) (Kd.V_mono HO291.out (fun k_ hk => (⟨hk, hk.2.2.2.2⟩ : _ ∧ k_ ≠ gb297))) (fun _ hk => hk.2) (.bool t292)) (fun _ hk => hk.2) (.int .i64 t293)) (fun _ hk => hk.2) (.int .i64 t294)) (fun _ hk => hk.2) (.int .i64 t295)) (fun _ hk => ⟨hk.1.1, ⟨hk.1.2.1, ⟨hk.1.2.2.1, ⟨hk.1.2.2.2.1, hk.1.2.2.2.2⟩⟩⟩⟩)))⟩; replace BK277 : Aside0 (w88.heap[gb277]? = some (.cells #[.int .i64 a0_0, .int .i64 a0_1, .int .i64 a0_2, .int .i64 a0_3] 23 (0, 0))) := ⟨(by rw [hw]; exact (by (with_reducible repeat (first | refine blk_drewN ?_ _ | refine blk_drew ?_ | refine blk_alloc ?_ _)); refine blk_far ?_ NB277_297.out _; (with_reducible repeat (first | refine blk_drewN ?_ _ | refine blk_drew ?_ | refine blk_alloc ?_ _)); refine blk_far ?_ NB277_297.out _; (with_reducible repeat (first | refine blk_drewN ?_ _ | refine blk_drew ?_ | refine blk_alloc ?_ _)); refine blk_far ?_ NB277_297.out _; (with_reducible repeat (first | refine blk_drewN ?_ _ | refine blk_drew ?_ | refine blk_alloc ?_ _)); refine blk_far ?_ NB277_297.out _; (with_reducible repeat (first | refine blk_drewN ?_ _ | refine blk_drew ?_ | refine blk_alloc ?_ _)); exact BK277.out))⟩; replace BK278 : Aside0 (w88.heap[gb278]? = some (.cells #[.int .i64 a1_0, .int .i64 a1_1, .slice A1_2 l1_2.length c1_2, .slice A1_3 l1_3.length c1_3] 27 (0, 0))) := ⟨(by rw [hw]; exact (by (with_reducible repeat (first | refine blk_drewN ?_ _ | refine blk_drew ?_ | refine blk_alloc ?_ _)); refine blk_far ?_ NB278_297.out _; (with_reducible repeat (first | refine blk_drewN ?_ _ | refine blk_drew ?_ | refine blk_alloc ?_ _)); refine blk_far ?_ NB278_297.out _; (with_reducible repeat (first | refine blk_drewN ?_ _ | refine blk_drew ?_ | refine blk_alloc ?_ _)); refine blk_far ?_ NB278_297.out _; (with_reducible repeat (first | refine blk_drewN ?_ _ | refine blk_drew ?_ | refine blk_alloc ?_ _)); refine blk_far ?_ NB278_297.out _; (with_reducible repeat (first | refine blk_drewN ?_ _ | refine blk_drew ?_ | refine blk_alloc ?_ _)); exact BK278.out))⟩; replace BK279 : Aside0 (w88.heap[gb279]? = some (.cells #[.int .i64 a2_0, .int .i64 a2_1] 28 (0, 0))) := ⟨(by rw [hw]; exact (by (with_reducible repeat (first | refine blk_drewN ?_ _ | refine blk_drew ?_ | refine blk_alloc ?_ _)); refine blk_far ?_ NB279_297.out _; (with_reducible repeat (first | refine blk_drewN ?_ _ | refine blk_drew ?_ | refine blk_alloc ?_ _)); refine blk_far ?_ NB279_297.out _; (with_reducible repeat (first | refine blk_drewN ?_ _ | refine blk_drew ?_ | refine blk_alloc ?_ _)); refine blk_far ?_ NB279_297.out _; (with_reducible repeat (first | refine blk_drewN ?_ _ | refine blk_drew ?_ | refine blk_alloc ?_ _)); refine blk_far ?_ NB279_297.out _; (with_reducible repeat (first | refine blk_drewN ?_ _ | refine blk_drew ?_ | refine blk_alloc ?_ _)); exact BK279.out))⟩; replace BK296 : Aside0 (w88.heap[gb296]? = some (.cells #[.int .i64 t284, .int .i64 t285, .slice Ao81 t286.length co81, .slice Ao82 t289.length co82] 27 (0, 0))) := ⟨(by rw [hw]; exact (by (with_reducible repeat (first | refine blk_drewN ?_ _ | refine blk_drew ?_ | refine blk_alloc ?_ _)); refine blk_far ?_ NB296_297.out _; (with_reducible repeat (first | refine blk_drewN ?_ _ | refine blk_drew ?_ | refine blk_alloc ?_ _)); refine blk_far ?_ NB296_297.out _; (with_reducible repeat (first | refine blk_drewN ?_ _ | refine blk_drew ?_ | refine blk_alloc ?_ _)); refine blk_far ?_ NB296_297.out _; (with_reducible repeat (first | refine blk_drewN ?_ _ | refine blk_drew ?_ | refine blk_alloc ?_ _)); refine blk_far ?_ NB296_297.out _; (with_reducible repeat (first | refine blk_drewN ?_ _ | refine blk_drew ?_ | refine blk_alloc ?_ _)); exact BK296.out))⟩; replace BK297 : Aside0 (w88.heap[gb297]? = some (.cells #[.bool t292, .int .i64 t293, .int .i64 t294, .int .i64 t295] 32 (0, 0))) := ⟨(by rw [hw]; exact (by (with_reducible repeat (first | refine blk_drewN ?_ _ | refine blk_drew ?_ | refine blk_alloc ?_ _)); refine blk_put (cs := #[.bool t292, .int .i64 t293, .int .i64 t294, .int .i64 0]) ?_ 3 _ rfl; (with_reducible repeat (first | refine blk_drewN ?_ _ | refine blk_drew ?_ | refine blk_alloc ?_ _)); refine blk_put (cs := #[.bool t292, .int .i64 t293, .int .i64 0, .int .i64 0]) ?_ 2 _ rfl; (with_reducible repeat (first | refine blk_drewN ?_ _ | refine blk_drew ?_ | refine blk_alloc ?_ _)); refine blk_put (cs := #[.bool t292, .int .i64 0, .int .i64 0, .int .i64 0]) ?_ 1 _ rfl; (with_reducible repeat (first | refine blk_drewN ?_ _ | refine blk_drew ?_ | refine blk_alloc ?_ _)); refine blk_put (cs := #[.bool false, .int .i64 0, .int .i64 0, .int .i64 0]) ?_ 0 _ rfl; (with_reducible repeat (first | refine blk_drewN ?_ _ | refine blk_drew ?_ | refine blk_alloc ?_ _)); exact BK297.out))⟩; replace HB : Aside0 (Below w.heap.size w w88) := ⟨(by rw [hw]; exact (bl HB))⟩; clear hw))
        (try simp only [Act.put, List.setIfInBounds_toArray, List.set_cons_zero, List.set_cons_succ])
        go_cut [87] (fun v87 wc => ∃ (kq : Nat) (x87_66 : Bool), v87 = .bool x87_66 ∧ Aside0 (sandglasslaw11_FixedMay.j1 kq a2_1 x87_66 a0_0 a0_1 a0_2 a0_3 t284 t285 t286 t289 t292 t293 t294 t295 = some r) ∧ Aside0 (kq ≤ kj3) ∧ Aside0 (Kd.V (Kd.int .i64) 3 wc w.heap.size (fun k_ => k_ ≠ gb277 ∧ k_ ≠ gb278 ∧ k_ ≠ gb279 ∧ k_ ≠ gb296 ∧ k_ ≠ gb297) (.slice Ao81 t286.length co81) t286) ∧ Aside0 (Kd.V k53 53 wc w.heap.size (fun k_ => k_ ≠ gb277 ∧ k_ ≠ gb278 ∧ k_ ≠ gb279 ∧ k_ ≠ gb296 ∧ k_ ≠ gb297) (.slice Ao82 t289.length co82) t289) ∧ Aside0 (wc.heap[gb277]? = some (.cells #[.int .i64 a0_0, .int .i64 a0_1, .int .i64 a0_2, .int .i64 a0_3] 23 (0, 0))) ∧ Aside0 (wc.heap[gb278]? = some (.cells #[.int .i64 a1_0, .int .i64 a1_1, (.slice A1_2 l1_2.length c1_2), (.slice A1_3 l1_3.length c1_3)] 27 (0, 0))) ∧ Aside0 (wc.heap[gb279]? = some (.cells #[.int .i64 a2_0, .int .i64 a2_1] 28 (0, 0))) ∧ Aside0 (wc.heap[gb296]? = some (.cells #[.int .i64 t284, .int .i64 t285, (.slice Ao81 t286.length co81), (.slice Ao82 t289.length co82)] 27 (0, 0))) ∧ Aside0 (wc.heap[gb297]? = some (.cells #[.bool t292, .int .i64 t293, .int .i64 t294, .int .i64 t295] 32 (0, 0))) ∧ Aside0 (Below w.heap.size w wc))
        case first =>
          as_aux_lemma =>
          have H := HC67.out
          clear HC67
          replace H := Option.bind_eq_some_iff.mp H
          obtain ⟨t298, A890, H⟩ := H
          have A89 := Aside0.mk A890
          clear A890
          by_cases c90 : t298 = true
          · subst c90
            rw [if_pos rfl] at H
            obtain ⟨ji91, hji91⟩ : ∃ j_ : Int, (mx a2_0 a1_0) = j_ := ⟨_, rfl⟩
            replace H : (if t284 = (ji91) then ((fixed_Total.f kj3 a0_0 a0_1 a0_2 a0_3 t284 t285 t286 t289 t284).bind fun t299 => (if t293 = (wrap64 (a0_1 - t299)) then (sandglasslaw11_FixedMay.j1 kj3 a2_1 (decide (t293 < 0)) a0_0 a0_1 a0_2 a0_3 t284 t285 t286 t289 t292 t293 t294 t295) else (sandglasslaw11_FixedMay.j1 kj3 a2_1 true a0_0 a0_1 a0_2 a0_3 t284 t285 t286 t289 t292 t293 t294 t295))) else (sandglasslaw11_FixedMay.j1 kj3 a2_1 true a0_0 a0_1 a0_2 a0_3 t284 t285 t286 t289 t292 t293 t294 t295)) = some r := by first | (rw [hji91] at H; exact H) | (simp only [hji91] at H ⊢; exact H)
            (try rw [hji91] at A89)
            have hji91_ : (if a2_0 < a1_0 then a1_0 else a2_0) = ji91 := hji91
            by_cases c92 : t284 = (ji91)
            · rw [if_pos c92] at H
              have c92b0 : (t284 == (ji91)) = true := beq_iff_eq.mpr c92
              have c92b1 : (t284 != (ji91)) = false := bne_eq_false_iff_eq.mpr c92
              clear c92
              (first | rw [c92b0] | (simp only [i64_w, i32_w]; rw [c92b0]) | skip)
              replace H := Option.bind_eq_some_iff.mp H
              obtain ⟨t299, A930, H⟩ := H
              have A93 := Aside0.mk A930
              clear A930
              by_cases c94 : t293 = (wrap64 (a0_1 - t299))
              · rw [if_pos c94] at H
                have c94b0 : (t293 == (wrap64 (a0_1 - t299))) = true := beq_iff_eq.mpr c94
                have c94b1 : (t293 != (wrap64 (a0_1 - t299))) = false := bne_eq_false_iff_eq.mpr c94
                clear c94
                have H' := Aside0.mk H
                clear H
                try go_wp2
                replace HO288 := Aside0.mk (Kd.V_drew HO288.out)
                replace HO291 := Aside0.mk (Kd.V_drew HO291.out)
                replace BK277 := Aside0.mk (blk_drew BK277.out)
                replace BK278 := Aside0.mk (blk_drew BK278.out)
                replace BK279 := Aside0.mk (blk_drew BK279.out)
                replace BK296 := Aside0.mk (blk_drew BK296.out)
                replace BK297 := Aside0.mk (blk_drew BK297.out)
                replace HB := Aside0.mk (below_drew1 HB.out)
                refine start_ (n := 31) (S := fun w' => w'.cell? ⟨gb277, 0, none⟩ = some (.int .i64 a0_0) ∧ w'.cell? ⟨gb277, 1, none⟩ = some (.int .i64 a0_1) ∧ w'.cell? ⟨gb277, 2, none⟩ = some (.int .i64 a0_2) ∧ w'.cell? ⟨gb277, 3, none⟩ = some (.int .i64 a0_3) ∧ w'.cell? ⟨gb296, 0, none⟩ = some (.int .i64 t284) ∧ w'.cell? ⟨gb296, 1, none⟩ = some (.int .i64 t285) ∧ w'.cell? ⟨gb296, 2, none⟩ = some (.slice Ao81 t286.length co81) ∧ w'.cell? ⟨gb296, 3, none⟩ = some (.slice Ao82 t289.length co82) ∧ w'.cell? ⟨gb278, 0, none⟩ = some (.int .i64 a1_0) ∧ w'.cell? ⟨gb278, 1, none⟩ = some (.int .i64 a1_1) ∧ w'.cell? ⟨gb278, 2, none⟩ = some (.slice A1_2 l1_2.length c1_2) ∧ w'.cell? ⟨gb278, 3, none⟩ = some (.slice A1_3 l1_3.length c1_3) ∧ w'.cell? ⟨gb297, 0, none⟩ = some (.bool t292) ∧ w'.cell? ⟨gb297, 1, none⟩ = some (.int .i64 t293) ∧ w'.cell? ⟨gb297, 2, none⟩ = some (.int .i64 t294) ∧ w'.cell? ⟨gb297, 3, none⟩ = some (.int .i64 t295)) (ds := []) #[false, false, false, false, false, false, false, false, false, false, false, false, false, false, false, false, false, false, false, false, false, false, false, false, false, false, false, false, false, false, false] (by kernel_rfl) rfl rfl ⟨(blk_cell BK277.out 0).trans rfl, (blk_cell BK277.out 1).trans rfl, (blk_cell BK277.out 2).trans rfl, (blk_cell BK277.out 3).trans rfl, (blk_cell BK296.out 0).trans rfl, (blk_cell BK296.out 1).trans rfl, (blk_cell BK296.out 2).trans rfl, (blk_cell BK296.out 3).trans rfl, (blk_cell BK278.out 0).trans rfl, (blk_cell BK278.out 1).trans rfl, (blk_cell BK278.out 2).trans rfl, (blk_cell BK278.out 3).trans rfl, (blk_cell BK297.out 0).trans rfl, (blk_cell BK297.out 1).trans rfl, (blk_cell BK297.out 2).trans rfl, (blk_cell BK297.out 3).trans rfl⟩ (fun hHeld => ?_); refine with_tabW sandglasslaw11_FixedMay.tab5 sandglasslaw11_FixedMay.bits5 (fun HT_ HW_ => ?_)
                generalize w88.drew = w95 at HO288 HO291 BK277 BK278 BK279 BK296 BK297 HB hHeld ⊢
                refine takeA 0 57 HT_ HW_ hHeld ?_
                refine takeA 1 58 HT_ HW_ hHeld ?_
                refine one_ (i := 2) (N := some 59) #[true, true, true, false, false, false, false, false, false, false, false, false, false, false, false, false, false, false, false, false, false, false, false, false, false, false, false, false, false, false, false] rfl rfl (one_of HT_.out (by kernel_rfl)) (by decide) (fun K hK => ?_)
                refine goes_ Try.func13 (by kernel_rfl) rfl #[.agg #[.int .i64 a0_0, .int .i64 a0_1, .int .i64 a0_2, .int .i64 a0_3], .agg #[.int .i64 t284, .int .i64 t285, .slice Ao81 t286.length co81, .slice Ao82 t289.length co82]] (by rfl) rfl rfl (by (try simp only [List.map_toArray, List.map_cons, List.map_nil]); first | done | rfl | (simp only [List.length_drop, List.length_take]; rfl)) ?_
                with_reducible refine (fixed_May.calls a0_0 a0_1 a0_2 a0_3 t284 t285 _ _ t286 _ _ t289 true _ ?side1 ?side2 ?side3 ?side4 A89.out).mono ?_
                (case side1 => repeat (first | exact (Kd.V_reads' HO288.out).2.2 | (with_reducible refine Kd.C_alloc ?_ _) | (with_reducible refine Kd.C_drewN ?_ _) | (with_reducible refine Kd.C_drew ?_)))
                (case side2 => exact (Kd.V_reads' HO288.out).2.1)
                (case side3 => repeat (first | exact (Kd.V_reads' HO291.out).2.2 | (with_reducible refine Kd.C_alloc ?_ _) | (with_reducible refine Kd.C_drewN ?_ _) | (with_reducible refine Kd.C_drew ?_)))
                (case side4 => exact (Kd.V_reads' HO291.out).2.1)
                rintro e w96 ⟨rfl, hb⟩
                refine ⟨_, rfl, ?_⟩
                replace HO288 := vb HO288 hb
                replace HO291 := vb HO291 hb
                replace BK277 := Aside0.mk (blk_below (bo BK277) hb)
                replace BK278 := Aside0.mk (blk_below (bo BK278) hb)
                replace BK279 := Aside0.mk (blk_below (bo BK279) hb)
                replace BK296 := Aside0.mk (blk_below (bo BK296) hb)
                replace BK297 := Aside0.mk (blk_below (bo BK297) hb)
                replace HB := Aside0.mk (below_step (bl HB) hb)
                (try clear hb)
                (try clear hb2)
                (try clear hk)
                (try clear hi)
                refine hK.out _ _ ⟨(blk_cell BK277.out 0).trans rfl, (blk_cell BK277.out 1).trans rfl, (blk_cell BK277.out 2).trans rfl, (blk_cell BK277.out 3).trans rfl, (blk_cell BK296.out 0).trans rfl, (blk_cell BK296.out 1).trans rfl, (blk_cell BK296.out 2).trans rfl, (blk_cell BK296.out 3).trans rfl, (blk_cell BK278.out 0).trans rfl, (blk_cell BK278.out 1).trans rfl, (blk_cell BK278.out 2).trans rfl, (blk_cell BK278.out 3).trans rfl, (blk_cell BK297.out 0).trans rfl, (blk_cell BK297.out 1).trans rfl, (blk_cell BK297.out 2).trans rfl, (blk_cell BK297.out 3).trans rfl⟩ (fun hHeld => ?_)
                clear hK K
                refine norm_ (a' := ?_) ?_ ?_
                rotate_left
                · show Act.put _ (some 59) _ = _
                  simp only [Act.put, List.setIfInBounds_toArray, List.set_cons_zero, List.set_cons_succ, i64_w, i32_w]
                  rfl
                refine pureA 3 60 HT_ ?_
                refine pureA 4 61 HT_ ?_
                refine pureA 5 62 HT_ ?_
                refine pureA 7 64 HT_ ?_
                refine pureA 8 65 HT_ ?_
                refine takeA 6 63 HT_ HW_ hHeld ?_
                refine takeA 9 66 HT_ HW_ hHeld ?_
                refine pureA 10 67 HT_ ?_
                refine pureA 11 68 HT_ ?_
                refine pureA 12 69 HT_ ?_
                refine pureA 13 70 HT_ ?_
                refine pureA 14 71 HT_ ?_
                refine pureA 16 73 HT_ ?_
                refine pureA 20 77 HT_ ?_
                refine takeA 15 72 HT_ HW_ hHeld ?_
                refine takeA 17 74 HT_ HW_ hHeld ?_
                refine takeA 18 75 HT_ HW_ hHeld ?_
                refine takeA 19 76 HT_ HW_ hHeld ?_
                refine takeA 21 78 HT_ HW_ hHeld ?_
                refine one_ (i := 22) (N := some 79) #[true, true, true, true, true, true, true, true, true, true, true, true, true, true, true, true, true, true, true, true, true, true, true, false, false, false, false, false, false, false, false] rfl rfl (one_of HT_.out (by kernel_rfl)) (by decide) (fun K hK => ?_)
                refine goes_ Try.func15 (by kernel_rfl) rfl #[.agg #[.int .i64 a0_0, .int .i64 a0_1, .int .i64 a0_2, .int .i64 a0_3], .agg #[.int .i64 t284, .int .i64 t285, .slice Ao81 t286.length co81, .slice Ao82 t289.length co82], .int .i64 t284] (by rfl) rfl rfl (by (try simp only [List.map_toArray, List.map_cons, List.map_nil]); first | done | rfl | (simp only [List.length_drop, List.length_take]; rfl)) ?_
                with_reducible refine (fixed_Total.calls kj3 a0_0 a0_1 a0_2 a0_3 t284 t285 _ _ t286 _ _ t289 t284 t299 _ ?side1 ?side2 ?side3 ?side4 A93.out).mono ?_
                (case side1 => repeat (first | exact (Kd.V_reads' HO288.out).2.2 | (with_reducible refine Kd.C_alloc ?_ _) | (with_reducible refine Kd.C_drewN ?_ _) | (with_reducible refine Kd.C_drew ?_)))
                (case side2 => exact (Kd.V_reads' HO288.out).2.1)
                (case side3 => repeat (first | exact (Kd.V_reads' HO291.out).2.2 | (with_reducible refine Kd.C_alloc ?_ _) | (with_reducible refine Kd.C_drewN ?_ _) | (with_reducible refine Kd.C_drew ?_)))
                (case side4 => exact (Kd.V_reads' HO291.out).2.1)
                rintro e w97 ⟨rfl, hb⟩
                refine ⟨_, rfl, ?_⟩
                replace HO288 := vb HO288 hb
                replace HO291 := vb HO291 hb
                replace BK277 := Aside0.mk (blk_below (bo BK277) hb)
                replace BK278 := Aside0.mk (blk_below (bo BK278) hb)
                replace BK279 := Aside0.mk (blk_below (bo BK279) hb)
                replace BK296 := Aside0.mk (blk_below (bo BK296) hb)
                replace BK297 := Aside0.mk (blk_below (bo BK297) hb)
                replace HB := Aside0.mk (below_step (bl HB) hb)
                (try clear hb)
                (try clear hb2)
                (try clear hk)
                (try clear hi)
                refine hK.out _ _ ⟨(blk_cell BK277.out 0).trans rfl, (blk_cell BK277.out 1).trans rfl, (blk_cell BK277.out 2).trans rfl, (blk_cell BK277.out 3).trans rfl, (blk_cell BK296.out 0).trans rfl, (blk_cell BK296.out 1).trans rfl, (blk_cell BK296.out 2).trans rfl, (blk_cell BK296.out 3).trans rfl, (blk_cell BK278.out 0).trans rfl, (blk_cell BK278.out 1).trans rfl, (blk_cell BK278.out 2).trans rfl, (blk_cell BK278.out 3).trans rfl, (blk_cell BK297.out 0).trans rfl, (blk_cell BK297.out 1).trans rfl, (blk_cell BK297.out 2).trans rfl, (blk_cell BK297.out 3).trans rfl⟩ (fun hHeld => ?_)
                clear hK K
                refine norm_ (a' := ?_) ?_ ?_
                rotate_left
                · show Act.put _ (some 79) _ = _
                  simp only [Act.put, List.setIfInBounds_toArray, List.set_cons_zero, List.set_cons_succ, i64_w, i32_w]
                  rfl
                refine pureA 23 80 HT_ ?_
                refine pureA 24 81 HT_ ?_
                refine pureA 25 82 HT_ ?_
                refine pureA 26 83 HT_ ?_
                refine pureA 27 84 HT_ ?_
                refine takeA 28 85 HT_ HW_ hHeld ?_
                refine pureA 29 86 HT_ ?_
                refine pureA 30 87 HT_ ?_
                refine done_ (done_of HT_.out (by kernel_rfl)) ?_
                try go_wp2
                go_meet
                case rel => exact ⟨_, (decide (t293 < 0)), (by first | (with_reducible rfl) | rfl | (simp; done) | (simp [*]; done)), H', ⟨by have := HJ3.out; first | omega | exact Nat.le_refl _⟩, ⟨by (with_reducible repeat (first | apply Kd.V_alloc | apply Kd.V_drewN | apply Kd.V_drew)); exact HO288.out⟩, ⟨by (with_reducible repeat (first | apply Kd.V_alloc | apply Kd.V_drewN | apply Kd.V_drew)); exact HO291.out⟩, ⟨bo BK277⟩, ⟨bo BK278⟩, ⟨bo BK279⟩, ⟨bo BK296⟩, ⟨bo BK297⟩, ⟨bl HB⟩⟩
              · rw [if_neg c94] at H
                have c94b0 : (t293 == (wrap64 (a0_1 - t299))) = false := beq_eq_false_iff_ne.mpr c94
                have c94b1 : (t293 != (wrap64 (a0_1 - t299))) = true := bne_iff_ne.mpr c94
                have H' := Aside0.mk H
                clear H
                try go_wp2
                replace HO288 := Aside0.mk (Kd.V_drew HO288.out)
                replace HO291 := Aside0.mk (Kd.V_drew HO291.out)
                replace BK277 := Aside0.mk (blk_drew BK277.out)
                replace BK278 := Aside0.mk (blk_drew BK278.out)
                replace BK279 := Aside0.mk (blk_drew BK279.out)
                replace BK296 := Aside0.mk (blk_drew BK296.out)
                replace BK297 := Aside0.mk (blk_drew BK297.out)
                replace HB := Aside0.mk (below_drew1 HB.out)
                refine start_ (n := 31) (S := fun w' => w'.cell? ⟨gb277, 0, none⟩ = some (.int .i64 a0_0) ∧ w'.cell? ⟨gb277, 1, none⟩ = some (.int .i64 a0_1) ∧ w'.cell? ⟨gb277, 2, none⟩ = some (.int .i64 a0_2) ∧ w'.cell? ⟨gb277, 3, none⟩ = some (.int .i64 a0_3) ∧ w'.cell? ⟨gb296, 0, none⟩ = some (.int .i64 t284) ∧ w'.cell? ⟨gb296, 1, none⟩ = some (.int .i64 t285) ∧ w'.cell? ⟨gb296, 2, none⟩ = some (.slice Ao81 t286.length co81) ∧ w'.cell? ⟨gb296, 3, none⟩ = some (.slice Ao82 t289.length co82) ∧ w'.cell? ⟨gb278, 0, none⟩ = some (.int .i64 a1_0) ∧ w'.cell? ⟨gb278, 1, none⟩ = some (.int .i64 a1_1) ∧ w'.cell? ⟨gb278, 2, none⟩ = some (.slice A1_2 l1_2.length c1_2) ∧ w'.cell? ⟨gb278, 3, none⟩ = some (.slice A1_3 l1_3.length c1_3) ∧ w'.cell? ⟨gb297, 0, none⟩ = some (.bool t292) ∧ w'.cell? ⟨gb297, 1, none⟩ = some (.int .i64 t293) ∧ w'.cell? ⟨gb297, 2, none⟩ = some (.int .i64 t294) ∧ w'.cell? ⟨gb297, 3, none⟩ = some (.int .i64 t295)) (ds := []) #[false, false, false, false, false, false, false, false, false, false, false, false, false, false, false, false, false, false, false, false, false, false, false, false, false, false, false, false, false, false, false] (by kernel_rfl) rfl rfl ⟨(blk_cell BK277.out 0).trans rfl, (blk_cell BK277.out 1).trans rfl, (blk_cell BK277.out 2).trans rfl, (blk_cell BK277.out 3).trans rfl, (blk_cell BK296.out 0).trans rfl, (blk_cell BK296.out 1).trans rfl, (blk_cell BK296.out 2).trans rfl, (blk_cell BK296.out 3).trans rfl, (blk_cell BK278.out 0).trans rfl, (blk_cell BK278.out 1).trans rfl, (blk_cell BK278.out 2).trans rfl, (blk_cell BK278.out 3).trans rfl, (blk_cell BK297.out 0).trans rfl, (blk_cell BK297.out 1).trans rfl, (blk_cell BK297.out 2).trans rfl, (blk_cell BK297.out 3).trans rfl⟩ (fun hHeld => ?_); refine with_tabW sandglasslaw11_FixedMay.tab5 sandglasslaw11_FixedMay.bits5 (fun HT_ HW_ => ?_)
                generalize w88.drew = w98 at HO288 HO291 BK277 BK278 BK279 BK296 BK297 HB hHeld ⊢
                refine takeA 0 57 HT_ HW_ hHeld ?_
                refine takeA 1 58 HT_ HW_ hHeld ?_
                refine one_ (i := 2) (N := some 59) #[true, true, true, false, false, false, false, false, false, false, false, false, false, false, false, false, false, false, false, false, false, false, false, false, false, false, false, false, false, false, false] rfl rfl (one_of HT_.out (by kernel_rfl)) (by decide) (fun K hK => ?_)
                refine goes_ Try.func13 (by kernel_rfl) rfl #[.agg #[.int .i64 a0_0, .int .i64 a0_1, .int .i64 a0_2, .int .i64 a0_3], .agg #[.int .i64 t284, .int .i64 t285, .slice Ao81 t286.length co81, .slice Ao82 t289.length co82]] (by rfl) rfl rfl (by (try simp only [List.map_toArray, List.map_cons, List.map_nil]); first | done | rfl | (simp only [List.length_drop, List.length_take]; rfl)) ?_
                with_reducible refine (fixed_May.calls a0_0 a0_1 a0_2 a0_3 t284 t285 _ _ t286 _ _ t289 true _ ?side1 ?side2 ?side3 ?side4 A89.out).mono ?_
                (case side1 => repeat (first | exact (Kd.V_reads' HO288.out).2.2 | (with_reducible refine Kd.C_alloc ?_ _) | (with_reducible refine Kd.C_drewN ?_ _) | (with_reducible refine Kd.C_drew ?_)))
                (case side2 => exact (Kd.V_reads' HO288.out).2.1)
                (case side3 => repeat (first | exact (Kd.V_reads' HO291.out).2.2 | (with_reducible refine Kd.C_alloc ?_ _) | (with_reducible refine Kd.C_drewN ?_ _) | (with_reducible refine Kd.C_drew ?_)))
                (case side4 => exact (Kd.V_reads' HO291.out).2.1)
                rintro e w99 ⟨rfl, hb⟩
                refine ⟨_, rfl, ?_⟩
                replace HO288 := vb HO288 hb
                replace HO291 := vb HO291 hb
                replace BK277 := Aside0.mk (blk_below (bo BK277) hb)
                replace BK278 := Aside0.mk (blk_below (bo BK278) hb)
                replace BK279 := Aside0.mk (blk_below (bo BK279) hb)
                replace BK296 := Aside0.mk (blk_below (bo BK296) hb)
                replace BK297 := Aside0.mk (blk_below (bo BK297) hb)
                replace HB := Aside0.mk (below_step (bl HB) hb)
                (try clear hb)
                (try clear hb2)
                (try clear hk)
                (try clear hi)
                refine hK.out _ _ ⟨(blk_cell BK277.out 0).trans rfl, (blk_cell BK277.out 1).trans rfl, (blk_cell BK277.out 2).trans rfl, (blk_cell BK277.out 3).trans rfl, (blk_cell BK296.out 0).trans rfl, (blk_cell BK296.out 1).trans rfl, (blk_cell BK296.out 2).trans rfl, (blk_cell BK296.out 3).trans rfl, (blk_cell BK278.out 0).trans rfl, (blk_cell BK278.out 1).trans rfl, (blk_cell BK278.out 2).trans rfl, (blk_cell BK278.out 3).trans rfl, (blk_cell BK297.out 0).trans rfl, (blk_cell BK297.out 1).trans rfl, (blk_cell BK297.out 2).trans rfl, (blk_cell BK297.out 3).trans rfl⟩ (fun hHeld => ?_)
                clear hK K
                refine norm_ (a' := ?_) ?_ ?_
                rotate_left
                · show Act.put _ (some 59) _ = _
                  simp only [Act.put, List.setIfInBounds_toArray, List.set_cons_zero, List.set_cons_succ, i64_w, i32_w]
                  rfl
                refine pureA 3 60 HT_ ?_
                refine pureA 4 61 HT_ ?_
                refine pureA 5 62 HT_ ?_
                refine pureA 7 64 HT_ ?_
                refine pureA 8 65 HT_ ?_
                refine takeA 6 63 HT_ HW_ hHeld ?_
                refine takeA 9 66 HT_ HW_ hHeld ?_
                refine pureA 10 67 HT_ ?_
                refine pureA 11 68 HT_ ?_
                refine pureA 12 69 HT_ ?_
                refine pureA 13 70 HT_ ?_
                refine pureA 14 71 HT_ ?_
                refine pureA 16 73 HT_ ?_
                refine pureA 20 77 HT_ ?_
                refine takeA 15 72 HT_ HW_ hHeld ?_
                refine takeA 17 74 HT_ HW_ hHeld ?_
                refine takeA 18 75 HT_ HW_ hHeld ?_
                refine takeA 19 76 HT_ HW_ hHeld ?_
                refine takeA 21 78 HT_ HW_ hHeld ?_
                refine one_ (i := 22) (N := some 79) #[true, true, true, true, true, true, true, true, true, true, true, true, true, true, true, true, true, true, true, true, true, true, true, false, false, false, false, false, false, false, false] rfl rfl (one_of HT_.out (by kernel_rfl)) (by decide) (fun K hK => ?_)
                refine goes_ Try.func15 (by kernel_rfl) rfl #[.agg #[.int .i64 a0_0, .int .i64 a0_1, .int .i64 a0_2, .int .i64 a0_3], .agg #[.int .i64 t284, .int .i64 t285, .slice Ao81 t286.length co81, .slice Ao82 t289.length co82], .int .i64 t284] (by rfl) rfl rfl (by (try simp only [List.map_toArray, List.map_cons, List.map_nil]); first | done | rfl | (simp only [List.length_drop, List.length_take]; rfl)) ?_
                with_reducible refine (fixed_Total.calls kj3 a0_0 a0_1 a0_2 a0_3 t284 t285 _ _ t286 _ _ t289 t284 t299 _ ?side1 ?side2 ?side3 ?side4 A93.out).mono ?_
                (case side1 => repeat (first | exact (Kd.V_reads' HO288.out).2.2 | (with_reducible refine Kd.C_alloc ?_ _) | (with_reducible refine Kd.C_drewN ?_ _) | (with_reducible refine Kd.C_drew ?_)))
                (case side2 => exact (Kd.V_reads' HO288.out).2.1)
                (case side3 => repeat (first | exact (Kd.V_reads' HO291.out).2.2 | (with_reducible refine Kd.C_alloc ?_ _) | (with_reducible refine Kd.C_drewN ?_ _) | (with_reducible refine Kd.C_drew ?_)))
                (case side4 => exact (Kd.V_reads' HO291.out).2.1)
                rintro e w100 ⟨rfl, hb⟩
                refine ⟨_, rfl, ?_⟩
                replace HO288 := vb HO288 hb
                replace HO291 := vb HO291 hb
                replace BK277 := Aside0.mk (blk_below (bo BK277) hb)
                replace BK278 := Aside0.mk (blk_below (bo BK278) hb)
                replace BK279 := Aside0.mk (blk_below (bo BK279) hb)
                replace BK296 := Aside0.mk (blk_below (bo BK296) hb)
                replace BK297 := Aside0.mk (blk_below (bo BK297) hb)
                replace HB := Aside0.mk (below_step (bl HB) hb)
                (try clear hb)
                (try clear hb2)
                (try clear hk)
                (try clear hi)
                refine hK.out _ _ ⟨(blk_cell BK277.out 0).trans rfl, (blk_cell BK277.out 1).trans rfl, (blk_cell BK277.out 2).trans rfl, (blk_cell BK277.out 3).trans rfl, (blk_cell BK296.out 0).trans rfl, (blk_cell BK296.out 1).trans rfl, (blk_cell BK296.out 2).trans rfl, (blk_cell BK296.out 3).trans rfl, (blk_cell BK278.out 0).trans rfl, (blk_cell BK278.out 1).trans rfl, (blk_cell BK278.out 2).trans rfl, (blk_cell BK278.out 3).trans rfl, (blk_cell BK297.out 0).trans rfl, (blk_cell BK297.out 1).trans rfl, (blk_cell BK297.out 2).trans rfl, (blk_cell BK297.out 3).trans rfl⟩ (fun hHeld => ?_)
                clear hK K
                refine norm_ (a' := ?_) ?_ ?_
                rotate_left
                · show Act.put _ (some 79) _ = _
                  simp only [Act.put, List.setIfInBounds_toArray, List.set_cons_zero, List.set_cons_succ, i64_w, i32_w]
                  rfl
                refine pureA 23 80 HT_ ?_
                refine pureA 24 81 HT_ ?_
                refine pureA 25 82 HT_ ?_
                refine pureA 26 83 HT_ ?_
                refine pure_ (i := 27) (N := some 84) (v := undef) (a' := ?_) #[true, true, true, true, true, true, true, true, true, true, true, true, true, true, true, true, true, true, true, true, true, true, true, true, true, true, true, true, false, false, false] rfl rfl (any_of HT_.out (by kernel_rfl)) (fun _ _ _ h => h) (Or.inr ⟨by rfl, rfl⟩) ?_ ?_
                rotate_left
                · simp only [Act.put, List.setIfInBounds_toArray, List.set_cons_zero, List.set_cons_succ, i64_w, i32_w]
                  rfl
                refine pure_ (i := 28) (N := some 85) (v := undef) (a' := ?_) #[true, true, true, true, true, true, true, true, true, true, true, true, true, true, true, true, true, true, true, true, true, true, true, true, true, true, true, true, true, false, false] rfl rfl (any_of HT_.out (by kernel_rfl)) (fun _ _ _ h => h) (Or.inr ⟨by rfl, rfl⟩) ?_ ?_
                rotate_left
                · simp only [Act.put, List.setIfInBounds_toArray, List.set_cons_zero, List.set_cons_succ, i64_w, i32_w]
                  rfl
                refine pure_ (i := 29) (N := some 86) (v := undef) (a' := ?_) #[true, true, true, true, true, true, true, true, true, true, true, true, true, true, true, true, true, true, true, true, true, true, true, true, true, true, true, true, true, true, false] rfl rfl (any_of HT_.out (by kernel_rfl)) (fun _ _ _ h => h) (Or.inr ⟨by rfl, rfl⟩) ?_ ?_
                rotate_left
                · simp only [Act.put, List.setIfInBounds_toArray, List.set_cons_zero, List.set_cons_succ, i64_w, i32_w]
                  rfl
                refine pureA 30 87 HT_ ?_
                refine done_ (done_of HT_.out (by kernel_rfl)) ?_
                try go_wp2
                go_meet
                case rel => exact ⟨_, (true), (by first | (with_reducible rfl) | rfl | (simp; done) | (simp [*]; done)), H', ⟨by have := HJ3.out; first | omega | exact Nat.le_refl _⟩, ⟨by (with_reducible repeat (first | apply Kd.V_alloc | apply Kd.V_drewN | apply Kd.V_drew)); exact HO288.out⟩, ⟨by (with_reducible repeat (first | apply Kd.V_alloc | apply Kd.V_drewN | apply Kd.V_drew)); exact HO291.out⟩, ⟨bo BK277⟩, ⟨bo BK278⟩, ⟨bo BK279⟩, ⟨bo BK296⟩, ⟨bo BK297⟩, ⟨bl HB⟩⟩
            · rw [if_neg c92] at H
              have c92b0 : (t284 == (ji91)) = false := beq_eq_false_iff_ne.mpr c92
              have c92b1 : (t284 != (ji91)) = true := bne_iff_ne.mpr c92
              (first | rw [c92b0] | (simp only [i64_w, i32_w]; rw [c92b0]) | skip)
              have H' := Aside0.mk H
              clear H
              try go_wp2
              replace HO288 := Aside0.mk (Kd.V_drew HO288.out)
              replace HO291 := Aside0.mk (Kd.V_drew HO291.out)
              replace BK277 := Aside0.mk (blk_drew BK277.out)
              replace BK278 := Aside0.mk (blk_drew BK278.out)
              replace BK279 := Aside0.mk (blk_drew BK279.out)
              replace BK296 := Aside0.mk (blk_drew BK296.out)
              replace BK297 := Aside0.mk (blk_drew BK297.out)
              replace HB := Aside0.mk (below_drew1 HB.out)
              refine start_ (n := 31) (S := fun w' => w'.cell? ⟨gb277, 0, none⟩ = some (.int .i64 a0_0) ∧ w'.cell? ⟨gb277, 1, none⟩ = some (.int .i64 a0_1) ∧ w'.cell? ⟨gb277, 2, none⟩ = some (.int .i64 a0_2) ∧ w'.cell? ⟨gb277, 3, none⟩ = some (.int .i64 a0_3) ∧ w'.cell? ⟨gb296, 0, none⟩ = some (.int .i64 t284) ∧ w'.cell? ⟨gb296, 1, none⟩ = some (.int .i64 t285) ∧ w'.cell? ⟨gb296, 2, none⟩ = some (.slice Ao81 t286.length co81) ∧ w'.cell? ⟨gb296, 3, none⟩ = some (.slice Ao82 t289.length co82) ∧ w'.cell? ⟨gb278, 0, none⟩ = some (.int .i64 a1_0) ∧ w'.cell? ⟨gb278, 1, none⟩ = some (.int .i64 a1_1) ∧ w'.cell? ⟨gb278, 2, none⟩ = some (.slice A1_2 l1_2.length c1_2) ∧ w'.cell? ⟨gb278, 3, none⟩ = some (.slice A1_3 l1_3.length c1_3)) (ds := []) #[false, false, false, false, false, false, false, false, false, false, false, false, false, false, false, false, false, false, false, false, false, false, false, false, false, false, false, false, false, false, false] (by kernel_rfl) rfl rfl ⟨(blk_cell BK277.out 0).trans rfl, (blk_cell BK277.out 1).trans rfl, (blk_cell BK277.out 2).trans rfl, (blk_cell BK277.out 3).trans rfl, (blk_cell BK296.out 0).trans rfl, (blk_cell BK296.out 1).trans rfl, (blk_cell BK296.out 2).trans rfl, (blk_cell BK296.out 3).trans rfl, (blk_cell BK278.out 0).trans rfl, (blk_cell BK278.out 1).trans rfl, (blk_cell BK278.out 2).trans rfl, (blk_cell BK278.out 3).trans rfl⟩ (fun hHeld => ?_); refine with_tabW sandglasslaw11_FixedMay.tab5 sandglasslaw11_FixedMay.bits5 (fun HT_ HW_ => ?_)
              generalize w88.drew = w101 at HO288 HO291 BK277 BK278 BK279 BK296 BK297 HB hHeld ⊢
              refine takeA 0 57 HT_ HW_ hHeld ?_
              refine takeA 1 58 HT_ HW_ hHeld ?_
              refine one_ (i := 2) (N := some 59) #[true, true, true, false, false, false, false, false, false, false, false, false, false, false, false, false, false, false, false, false, false, false, false, false, false, false, false, false, false, false, false] rfl rfl (one_of HT_.out (by kernel_rfl)) (by decide) (fun K hK => ?_)
              refine goes_ Try.func13 (by kernel_rfl) rfl #[.agg #[.int .i64 a0_0, .int .i64 a0_1, .int .i64 a0_2, .int .i64 a0_3], .agg #[.int .i64 t284, .int .i64 t285, .slice Ao81 t286.length co81, .slice Ao82 t289.length co82]] (by rfl) rfl rfl (by (try simp only [List.map_toArray, List.map_cons, List.map_nil]); first | done | rfl | (simp only [List.length_drop, List.length_take]; rfl)) ?_
              with_reducible refine (fixed_May.calls a0_0 a0_1 a0_2 a0_3 t284 t285 _ _ t286 _ _ t289 true _ ?side1 ?side2 ?side3 ?side4 A89.out).mono ?_
              (case side1 => repeat (first | exact (Kd.V_reads' HO288.out).2.2 | (with_reducible refine Kd.C_alloc ?_ _) | (with_reducible refine Kd.C_drewN ?_ _) | (with_reducible refine Kd.C_drew ?_)))
              (case side2 => exact (Kd.V_reads' HO288.out).2.1)
              (case side3 => repeat (first | exact (Kd.V_reads' HO291.out).2.2 | (with_reducible refine Kd.C_alloc ?_ _) | (with_reducible refine Kd.C_drewN ?_ _) | (with_reducible refine Kd.C_drew ?_)))
              (case side4 => exact (Kd.V_reads' HO291.out).2.1)
              rintro e w102 ⟨rfl, hb⟩
              refine ⟨_, rfl, ?_⟩
              replace HO288 := vb HO288 hb
              replace HO291 := vb HO291 hb
              replace BK277 := Aside0.mk (blk_below (bo BK277) hb)
              replace BK278 := Aside0.mk (blk_below (bo BK278) hb)
              replace BK279 := Aside0.mk (blk_below (bo BK279) hb)
              replace BK296 := Aside0.mk (blk_below (bo BK296) hb)
              replace BK297 := Aside0.mk (blk_below (bo BK297) hb)
              replace HB := Aside0.mk (below_step (bl HB) hb)
              (try clear hb)
              (try clear hb2)
              (try clear hk)
              (try clear hi)
              refine hK.out _ _ ⟨(blk_cell BK277.out 0).trans rfl, (blk_cell BK277.out 1).trans rfl, (blk_cell BK277.out 2).trans rfl, (blk_cell BK277.out 3).trans rfl, (blk_cell BK296.out 0).trans rfl, (blk_cell BK296.out 1).trans rfl, (blk_cell BK296.out 2).trans rfl, (blk_cell BK296.out 3).trans rfl, (blk_cell BK278.out 0).trans rfl, (blk_cell BK278.out 1).trans rfl, (blk_cell BK278.out 2).trans rfl, (blk_cell BK278.out 3).trans rfl⟩ (fun hHeld => ?_)
              clear hK K
              refine norm_ (a' := ?_) ?_ ?_
              rotate_left
              · show Act.put _ (some 59) _ = _
                simp only [Act.put, List.setIfInBounds_toArray, List.set_cons_zero, List.set_cons_succ, i64_w, i32_w]
                rfl
              refine pureA 3 60 HT_ ?_
              refine pureA 4 61 HT_ ?_
              refine pureA 5 62 HT_ ?_
              refine pureA 7 64 HT_ ?_
              refine pureA 8 65 HT_ ?_
              refine takeA 6 63 HT_ HW_ hHeld ?_
              refine takeA 9 66 HT_ HW_ hHeld ?_
              refine pureA 10 67 HT_ ?_
              refine pureA 11 68 HT_ ?_
              refine pureA 12 69 HT_ ?_
              refine pureA 13 70 HT_ ?_
              refine pure_ (i := 14) (N := some 71) (v := undef) (a' := ?_) #[true, true, true, true, true, true, true, true, true, true, true, true, true, true, true, false, false, false, false, false, false, false, false, false, false, false, false, false, false, false, false] rfl rfl (any_of HT_.out (by kernel_rfl)) (fun _ _ _ h => h) (Or.inr ⟨by rfl, rfl⟩) ?_ ?_
              rotate_left
              · simp only [Act.put, List.setIfInBounds_toArray, List.set_cons_zero, List.set_cons_succ, i64_w, i32_w]
                rfl
              refine pure_ (i := 15) (N := some 72) (v := undef) (a' := ?_) #[true, true, true, true, true, true, true, true, true, true, true, true, true, true, true, true, false, false, false, false, false, false, false, false, false, false, false, false, false, false, false] rfl rfl (any_of HT_.out (by kernel_rfl)) (fun _ _ _ h => h) (Or.inr ⟨by rfl, rfl⟩) ?_ ?_
              rotate_left
              · simp only [Act.put, List.setIfInBounds_toArray, List.set_cons_zero, List.set_cons_succ, i64_w, i32_w]
                rfl
              refine pure_ (i := 16) (N := some 73) (v := undef) (a' := ?_) #[true, true, true, true, true, true, true, true, true, true, true, true, true, true, true, true, true, false, false, false, false, false, false, false, false, false, false, false, false, false, false] rfl rfl (any_of HT_.out (by kernel_rfl)) (fun _ _ _ h => h) (Or.inr ⟨by rfl, rfl⟩) ?_ ?_
              rotate_left
              · simp only [Act.put, List.setIfInBounds_toArray, List.set_cons_zero, List.set_cons_succ, i64_w, i32_w]
                rfl
              refine pure_ (i := 17) (N := some 74) (v := undef) (a' := ?_) #[true, true, true, true, true, true, true, true, true, true, true, true, true, true, true, true, true, true, false, false, false, false, false, false, false, false, false, false, false, false, false] rfl rfl (any_of HT_.out (by kernel_rfl)) (fun _ _ _ h => h) (Or.inr ⟨by rfl, rfl⟩) ?_ ?_
              rotate_left
              · simp only [Act.put, List.setIfInBounds_toArray, List.set_cons_zero, List.set_cons_succ, i64_w, i32_w]
                rfl
              refine pure_ (i := 18) (N := some 75) (v := undef) (a' := ?_) #[true, true, true, true, true, true, true, true, true, true, true, true, true, true, true, true, true, true, true, false, false, false, false, false, false, false, false, false, false, false, false] rfl rfl (any_of HT_.out (by kernel_rfl)) (fun _ _ _ h => h) (Or.inr ⟨by rfl, rfl⟩) ?_ ?_
              rotate_left
              · simp only [Act.put, List.setIfInBounds_toArray, List.set_cons_zero, List.set_cons_succ, i64_w, i32_w]
                rfl
              refine pure_ (i := 19) (N := some 76) (v := undef) (a' := ?_) #[true, true, true, true, true, true, true, true, true, true, true, true, true, true, true, true, true, true, true, true, false, false, false, false, false, false, false, false, false, false, false] rfl rfl (any_of HT_.out (by kernel_rfl)) (fun _ _ _ h => h) (Or.inr ⟨by rfl, rfl⟩) ?_ ?_
              rotate_left
              · simp only [Act.put, List.setIfInBounds_toArray, List.set_cons_zero, List.set_cons_succ, i64_w, i32_w]
                rfl
              refine pure_ (i := 20) (N := some 77) (v := undef) (a' := ?_) #[true, true, true, true, true, true, true, true, true, true, true, true, true, true, true, true, true, true, true, true, true, false, false, false, false, false, false, false, false, false, false] rfl rfl (any_of HT_.out (by kernel_rfl)) (fun _ _ _ h => h) (Or.inr ⟨by rfl, rfl⟩) ?_ ?_
              rotate_left
              · simp only [Act.put, List.setIfInBounds_toArray, List.set_cons_zero, List.set_cons_succ, i64_w, i32_w]
                rfl
              refine pure_ (i := 21) (N := some 78) (v := undef) (a' := ?_) #[true, true, true, true, true, true, true, true, true, true, true, true, true, true, true, true, true, true, true, true, true, true, false, false, false, false, false, false, false, false, false] rfl rfl (any_of HT_.out (by kernel_rfl)) (fun _ _ _ h => h) (Or.inr ⟨by rfl, rfl⟩) ?_ ?_
              rotate_left
              · simp only [Act.put, List.setIfInBounds_toArray, List.set_cons_zero, List.set_cons_succ, i64_w, i32_w]
                rfl
              refine pure_ (i := 22) (N := some 79) (v := undef) (a' := ?_) #[true, true, true, true, true, true, true, true, true, true, true, true, true, true, true, true, true, true, true, true, true, true, true, false, false, false, false, false, false, false, false] rfl rfl (any_of HT_.out (by kernel_rfl)) (fun _ _ _ h => h) (Or.inr ⟨by rfl, rfl⟩) ?_ ?_
              rotate_left
              · simp only [Act.put, List.setIfInBounds_toArray, List.set_cons_zero, List.set_cons_succ, i64_w, i32_w]
                rfl
              refine pure_ (i := 23) (N := some 80) (v := undef) (a' := ?_) #[true, true, true, true, true, true, true, true, true, true, true, true, true, true, true, true, true, true, true, true, true, true, true, true, false, false, false, false, false, false, false] rfl rfl (any_of HT_.out (by kernel_rfl)) (fun _ _ _ h => h) (Or.inr ⟨by rfl, rfl⟩) ?_ ?_
              rotate_left
              · simp only [Act.put, List.setIfInBounds_toArray, List.set_cons_zero, List.set_cons_succ, i64_w, i32_w]
                rfl
              refine pure_ (i := 24) (N := some 81) (v := undef) (a' := ?_) #[true, true, true, true, true, true, true, true, true, true, true, true, true, true, true, true, true, true, true, true, true, true, true, true, true, false, false, false, false, false, false] rfl rfl (any_of HT_.out (by kernel_rfl)) (fun _ _ _ h => h) (Or.inr ⟨by rfl, rfl⟩) ?_ ?_
              rotate_left
              · simp only [Act.put, List.setIfInBounds_toArray, List.set_cons_zero, List.set_cons_succ, i64_w, i32_w]
                rfl
              refine pureA 25 82 HT_ ?_
              refine pureA 26 83 HT_ ?_
              refine pure_ (i := 27) (N := some 84) (v := undef) (a' := ?_) #[true, true, true, true, true, true, true, true, true, true, true, true, true, true, true, true, true, true, true, true, true, true, true, true, true, true, true, true, false, false, false] rfl rfl (any_of HT_.out (by kernel_rfl)) (fun _ _ _ h => h) (Or.inr ⟨by rfl, rfl⟩) ?_ ?_
              rotate_left
              · simp only [Act.put, List.setIfInBounds_toArray, List.set_cons_zero, List.set_cons_succ, i64_w, i32_w]
                rfl
              refine pure_ (i := 28) (N := some 85) (v := undef) (a' := ?_) #[true, true, true, true, true, true, true, true, true, true, true, true, true, true, true, true, true, true, true, true, true, true, true, true, true, true, true, true, true, false, false] rfl rfl (any_of HT_.out (by kernel_rfl)) (fun _ _ _ h => h) (Or.inr ⟨by rfl, rfl⟩) ?_ ?_
              rotate_left
              · simp only [Act.put, List.setIfInBounds_toArray, List.set_cons_zero, List.set_cons_succ, i64_w, i32_w]
                rfl
              refine pure_ (i := 29) (N := some 86) (v := undef) (a' := ?_) #[true, true, true, true, true, true, true, true, true, true, true, true, true, true, true, true, true, true, true, true, true, true, true, true, true, true, true, true, true, true, false] rfl rfl (any_of HT_.out (by kernel_rfl)) (fun _ _ _ h => h) (Or.inr ⟨by rfl, rfl⟩) ?_ ?_
              rotate_left
              · simp only [Act.put, List.setIfInBounds_toArray, List.set_cons_zero, List.set_cons_succ, i64_w, i32_w]
                rfl
              refine pureA 30 87 HT_ ?_
              refine done_ (done_of HT_.out (by kernel_rfl)) ?_
              try go_wp2
              go_meet
              case rel => exact ⟨_, (true), (by first | (with_reducible rfl) | rfl | (simp; done) | (simp [*]; done)), H', ⟨by have := HJ3.out; first | omega | exact Nat.le_refl _⟩, ⟨by (with_reducible repeat (first | apply Kd.V_alloc | apply Kd.V_drewN | apply Kd.V_drew)); exact HO288.out⟩, ⟨by (with_reducible repeat (first | apply Kd.V_alloc | apply Kd.V_drewN | apply Kd.V_drew)); exact HO291.out⟩, ⟨bo BK277⟩, ⟨bo BK278⟩, ⟨bo BK279⟩, ⟨bo BK296⟩, ⟨bo BK297⟩, ⟨bl HB⟩⟩
          · replace c90 := Bool.eq_false_iff.mpr c90
            subst c90
            rw [if_neg (show ¬ (false = true) by decide)] at H
            have H' := Aside0.mk H
            clear H
            try go_wp2
            replace HO288 := Aside0.mk (Kd.V_drew HO288.out)
            replace HO291 := Aside0.mk (Kd.V_drew HO291.out)
            replace BK277 := Aside0.mk (blk_drew BK277.out)
            replace BK278 := Aside0.mk (blk_drew BK278.out)
            replace BK279 := Aside0.mk (blk_drew BK279.out)
            replace BK296 := Aside0.mk (blk_drew BK296.out)
            replace BK297 := Aside0.mk (blk_drew BK297.out)
            replace HB := Aside0.mk (below_drew1 HB.out)
            refine start_ (n := 31) (S := fun w' => w'.cell? ⟨gb277, 0, none⟩ = some (.int .i64 a0_0) ∧ w'.cell? ⟨gb277, 1, none⟩ = some (.int .i64 a0_1) ∧ w'.cell? ⟨gb277, 2, none⟩ = some (.int .i64 a0_2) ∧ w'.cell? ⟨gb277, 3, none⟩ = some (.int .i64 a0_3) ∧ w'.cell? ⟨gb296, 0, none⟩ = some (.int .i64 t284) ∧ w'.cell? ⟨gb296, 1, none⟩ = some (.int .i64 t285) ∧ w'.cell? ⟨gb296, 2, none⟩ = some (.slice Ao81 t286.length co81) ∧ w'.cell? ⟨gb296, 3, none⟩ = some (.slice Ao82 t289.length co82)) (ds := []) #[false, false, false, false, false, false, false, false, false, false, false, false, false, false, false, false, false, false, false, false, false, false, false, false, false, false, false, false, false, false, false] (by kernel_rfl) rfl rfl ⟨(blk_cell BK277.out 0).trans rfl, (blk_cell BK277.out 1).trans rfl, (blk_cell BK277.out 2).trans rfl, (blk_cell BK277.out 3).trans rfl, (blk_cell BK296.out 0).trans rfl, (blk_cell BK296.out 1).trans rfl, (blk_cell BK296.out 2).trans rfl, (blk_cell BK296.out 3).trans rfl⟩ (fun hHeld => ?_); refine with_tabW sandglasslaw11_FixedMay.tab5 sandglasslaw11_FixedMay.bits5 (fun HT_ HW_ => ?_)
            generalize w88.drew = w103 at HO288 HO291 BK277 BK278 BK279 BK296 BK297 HB hHeld ⊢
            refine takeA 0 57 HT_ HW_ hHeld ?_
            refine takeA 1 58 HT_ HW_ hHeld ?_
            refine one_ (i := 2) (N := some 59) #[true, true, true, false, false, false, false, false, false, false, false, false, false, false, false, false, false, false, false, false, false, false, false, false, false, false, false, false, false, false, false] rfl rfl (one_of HT_.out (by kernel_rfl)) (by decide) (fun K hK => ?_)
            refine goes_ Try.func13 (by kernel_rfl) rfl #[.agg #[.int .i64 a0_0, .int .i64 a0_1, .int .i64 a0_2, .int .i64 a0_3], .agg #[.int .i64 t284, .int .i64 t285, .slice Ao81 t286.length co81, .slice Ao82 t289.length co82]] (by rfl) rfl rfl (by (try simp only [List.map_toArray, List.map_cons, List.map_nil]); first | done | rfl | (simp only [List.length_drop, List.length_take]; rfl)) ?_
            with_reducible refine (fixed_May.calls a0_0 a0_1 a0_2 a0_3 t284 t285 _ _ t286 _ _ t289 false _ ?side1 ?side2 ?side3 ?side4 A89.out).mono ?_
            (case side1 => repeat (first | exact (Kd.V_reads' HO288.out).2.2 | (with_reducible refine Kd.C_alloc ?_ _) | (with_reducible refine Kd.C_drewN ?_ _) | (with_reducible refine Kd.C_drew ?_)))
            (case side2 => exact (Kd.V_reads' HO288.out).2.1)
            (case side3 => repeat (first | exact (Kd.V_reads' HO291.out).2.2 | (with_reducible refine Kd.C_alloc ?_ _) | (with_reducible refine Kd.C_drewN ?_ _) | (with_reducible refine Kd.C_drew ?_)))
            (case side4 => exact (Kd.V_reads' HO291.out).2.1)
            rintro e w104 ⟨rfl, hb⟩
            refine ⟨_, rfl, ?_⟩
            replace HO288 := vb HO288 hb
            replace HO291 := vb HO291 hb
            replace BK277 := Aside0.mk (blk_below (bo BK277) hb)
            replace BK278 := Aside0.mk (blk_below (bo BK278) hb)
            replace BK279 := Aside0.mk (blk_below (bo BK279) hb)
            replace BK296 := Aside0.mk (blk_below (bo BK296) hb)
            replace BK297 := Aside0.mk (blk_below (bo BK297) hb)
            replace HB := Aside0.mk (below_step (bl HB) hb)
            (try clear hb)
            (try clear hb2)
            (try clear hk)
            (try clear hi)
            refine hK.out _ _ ⟨(blk_cell BK277.out 0).trans rfl, (blk_cell BK277.out 1).trans rfl, (blk_cell BK277.out 2).trans rfl, (blk_cell BK277.out 3).trans rfl, (blk_cell BK296.out 0).trans rfl, (blk_cell BK296.out 1).trans rfl, (blk_cell BK296.out 2).trans rfl, (blk_cell BK296.out 3).trans rfl⟩ (fun hHeld => ?_)
            clear hK K
            refine norm_ (a' := ?_) ?_ ?_
            rotate_left
            · show Act.put _ (some 59) _ = _
              simp only [Act.put, List.setIfInBounds_toArray, List.set_cons_zero, List.set_cons_succ, i64_w, i32_w]
              rfl
            refine pureA 3 60 HT_ ?_
            refine pureA 4 61 HT_ ?_
            refine pure_ (i := 5) (N := some 62) (v := undef) (a' := ?_) #[true, true, true, true, true, true, false, false, false, false, false, false, false, false, false, false, false, false, false, false, false, false, false, false, false, false, false, false, false, false, false] rfl rfl (any_of HT_.out (by kernel_rfl)) (fun _ _ _ h => h) (Or.inr ⟨by rfl, rfl⟩) ?_ ?_
            rotate_left
            · simp only [Act.put, List.setIfInBounds_toArray, List.set_cons_zero, List.set_cons_succ, i64_w, i32_w]
              rfl
            refine pure_ (i := 6) (N := some 63) (v := undef) (a' := ?_) #[true, true, true, true, true, true, true, false, false, false, false, false, false, false, false, false, false, false, false, false, false, false, false, false, false, false, false, false, false, false, false] rfl rfl (any_of HT_.out (by kernel_rfl)) (fun _ _ _ h => h) (Or.inr ⟨by rfl, rfl⟩) ?_ ?_
            rotate_left
            · simp only [Act.put, List.setIfInBounds_toArray, List.set_cons_zero, List.set_cons_succ, i64_w, i32_w]
              rfl
            refine pure_ (i := 7) (N := some 64) (v := undef) (a' := ?_) #[true, true, true, true, true, true, true, true, false, false, false, false, false, false, false, false, false, false, false, false, false, false, false, false, false, false, false, false, false, false, false] rfl rfl (any_of HT_.out (by kernel_rfl)) (fun _ _ _ h => h) (Or.inr ⟨by rfl, rfl⟩) ?_ ?_
            rotate_left
            · simp only [Act.put, List.setIfInBounds_toArray, List.set_cons_zero, List.set_cons_succ, i64_w, i32_w]
              rfl
            refine pure_ (i := 8) (N := some 65) (v := undef) (a' := ?_) #[true, true, true, true, true, true, true, true, true, false, false, false, false, false, false, false, false, false, false, false, false, false, false, false, false, false, false, false, false, false, false] rfl rfl (any_of HT_.out (by kernel_rfl)) (fun _ _ _ h => h) (Or.inr ⟨by rfl, rfl⟩) ?_ ?_
            rotate_left
            · simp only [Act.put, List.setIfInBounds_toArray, List.set_cons_zero, List.set_cons_succ, i64_w, i32_w]
              rfl
            refine pure_ (i := 9) (N := some 66) (v := undef) (a' := ?_) #[true, true, true, true, true, true, true, true, true, true, false, false, false, false, false, false, false, false, false, false, false, false, false, false, false, false, false, false, false, false, false] rfl rfl (any_of HT_.out (by kernel_rfl)) (fun _ _ _ h => h) (Or.inr ⟨by rfl, rfl⟩) ?_ ?_
            rotate_left
            · simp only [Act.put, List.setIfInBounds_toArray, List.set_cons_zero, List.set_cons_succ, i64_w, i32_w]
              rfl
            refine pure_ (i := 10) (N := some 67) (v := undef) (a' := ?_) #[true, true, true, true, true, true, true, true, true, true, true, false, false, false, false, false, false, false, false, false, false, false, false, false, false, false, false, false, false, false, false] rfl rfl (any_of HT_.out (by kernel_rfl)) (fun _ _ _ h => h) (Or.inr ⟨by rfl, rfl⟩) ?_ ?_
            rotate_left
            · simp only [Act.put, List.setIfInBounds_toArray, List.set_cons_zero, List.set_cons_succ, i64_w, i32_w]
              rfl
            refine pure_ (i := 11) (N := some 68) (v := undef) (a' := ?_) #[true, true, true, true, true, true, true, true, true, true, true, true, false, false, false, false, false, false, false, false, false, false, false, false, false, false, false, false, false, false, false] rfl rfl (any_of HT_.out (by kernel_rfl)) (fun _ _ _ h => h) (Or.inr ⟨by rfl, rfl⟩) ?_ ?_
            rotate_left
            · simp only [Act.put, List.setIfInBounds_toArray, List.set_cons_zero, List.set_cons_succ, i64_w, i32_w]
              rfl
            refine pureA 12 69 HT_ ?_
            refine pureA 13 70 HT_ ?_
            refine pure_ (i := 14) (N := some 71) (v := undef) (a' := ?_) #[true, true, true, true, true, true, true, true, true, true, true, true, true, true, true, false, false, false, false, false, false, false, false, false, false, false, false, false, false, false, false] rfl rfl (any_of HT_.out (by kernel_rfl)) (fun _ _ _ h => h) (Or.inr ⟨by rfl, rfl⟩) ?_ ?_
            rotate_left
            · simp only [Act.put, List.setIfInBounds_toArray, List.set_cons_zero, List.set_cons_succ, i64_w, i32_w]
              rfl
            refine pure_ (i := 15) (N := some 72) (v := undef) (a' := ?_) #[true, true, true, true, true, true, true, true, true, true, true, true, true, true, true, true, false, false, false, false, false, false, false, false, false, false, false, false, false, false, false] rfl rfl (any_of HT_.out (by kernel_rfl)) (fun _ _ _ h => h) (Or.inr ⟨by rfl, rfl⟩) ?_ ?_
            rotate_left
            · simp only [Act.put, List.setIfInBounds_toArray, List.set_cons_zero, List.set_cons_succ, i64_w, i32_w]
              rfl
            refine pure_ (i := 16) (N := some 73) (v := undef) (a' := ?_) #[true, true, true, true, true, true, true, true, true, true, true, true, true, true, true, true, true, false, false, false, false, false, false, false, false, false, false, false, false, false, false] rfl rfl (any_of HT_.out (by kernel_rfl)) (fun _ _ _ h => h) (Or.inr ⟨by rfl, rfl⟩) ?_ ?_
            rotate_left
            · simp only [Act.put, List.setIfInBounds_toArray, List.set_cons_zero, List.set_cons_succ, i64_w, i32_w]
              rfl
            refine pure_ (i := 17) (N := some 74) (v := undef) (a' := ?_) #[true, true, true, true, true, true, true, true, true, true, true, true, true, true, true, true, true, true, false, false, false, false, false, false, false, false, false, false, false, false, false] rfl rfl (any_of HT_.out (by kernel_rfl)) (fun _ _ _ h => h) (Or.inr ⟨by rfl, rfl⟩) ?_ ?_
            rotate_left
            · simp only [Act.put, List.setIfInBounds_toArray, List.set_cons_zero, List.set_cons_succ, i64_w, i32_w]
              rfl
            refine pure_ (i := 18) (N := some 75) (v := undef) (a' := ?_) #[true, true, true, true, true, true, true, true, true, true, true, true, true, true, true, true, true, true, true, false, false, false, false, false, false, false, false, false, false, false, false] rfl rfl (any_of HT_.out (by kernel_rfl)) (fun _ _ _ h => h) (Or.inr ⟨by rfl, rfl⟩) ?_ ?_
            rotate_left
            · simp only [Act.put, List.setIfInBounds_toArray, List.set_cons_zero, List.set_cons_succ, i64_w, i32_w]
              rfl
            refine pure_ (i := 19) (N := some 76) (v := undef) (a' := ?_) #[true, true, true, true, true, true, true, true, true, true, true, true, true, true, true, true, true, true, true, true, false, false, false, false, false, false, false, false, false, false, false] rfl rfl (any_of HT_.out (by kernel_rfl)) (fun _ _ _ h => h) (Or.inr ⟨by rfl, rfl⟩) ?_ ?_
            rotate_left
            · simp only [Act.put, List.setIfInBounds_toArray, List.set_cons_zero, List.set_cons_succ, i64_w, i32_w]
              rfl
            refine pure_ (i := 20) (N := some 77) (v := undef) (a' := ?_) #[true, true, true, true, true, true, true, true, true, true, true, true, true, true, true, true, true, true, true, true, true, false, false, false, false, false, false, false, false, false, false] rfl rfl (any_of HT_.out (by kernel_rfl)) (fun _ _ _ h => h) (Or.inr ⟨by rfl, rfl⟩) ?_ ?_
            rotate_left
            · simp only [Act.put, List.setIfInBounds_toArray, List.set_cons_zero, List.set_cons_succ, i64_w, i32_w]
              rfl
            refine pure_ (i := 21) (N := some 78) (v := undef) (a' := ?_) #[true, true, true, true, true, true, true, true, true, true, true, true, true, true, true, true, true, true, true, true, true, true, false, false, false, false, false, false, false, false, false] rfl rfl (any_of HT_.out (by kernel_rfl)) (fun _ _ _ h => h) (Or.inr ⟨by rfl, rfl⟩) ?_ ?_
            rotate_left
            · simp only [Act.put, List.setIfInBounds_toArray, List.set_cons_zero, List.set_cons_succ, i64_w, i32_w]
              rfl
            refine pure_ (i := 22) (N := some 79) (v := undef) (a' := ?_) #[true, true, true, true, true, true, true, true, true, true, true, true, true, true, true, true, true, true, true, true, true, true, true, false, false, false, false, false, false, false, false] rfl rfl (any_of HT_.out (by kernel_rfl)) (fun _ _ _ h => h) (Or.inr ⟨by rfl, rfl⟩) ?_ ?_
            rotate_left
            · simp only [Act.put, List.setIfInBounds_toArray, List.set_cons_zero, List.set_cons_succ, i64_w, i32_w]
              rfl
            refine pure_ (i := 23) (N := some 80) (v := undef) (a' := ?_) #[true, true, true, true, true, true, true, true, true, true, true, true, true, true, true, true, true, true, true, true, true, true, true, true, false, false, false, false, false, false, false] rfl rfl (any_of HT_.out (by kernel_rfl)) (fun _ _ _ h => h) (Or.inr ⟨by rfl, rfl⟩) ?_ ?_
            rotate_left
            · simp only [Act.put, List.setIfInBounds_toArray, List.set_cons_zero, List.set_cons_succ, i64_w, i32_w]
              rfl
            refine pure_ (i := 24) (N := some 81) (v := undef) (a' := ?_) #[true, true, true, true, true, true, true, true, true, true, true, true, true, true, true, true, true, true, true, true, true, true, true, true, true, false, false, false, false, false, false] rfl rfl (any_of HT_.out (by kernel_rfl)) (fun _ _ _ h => h) (Or.inr ⟨by rfl, rfl⟩) ?_ ?_
            rotate_left
            · simp only [Act.put, List.setIfInBounds_toArray, List.set_cons_zero, List.set_cons_succ, i64_w, i32_w]
              rfl
            refine pureA 25 82 HT_ ?_
            refine pureA 26 83 HT_ ?_
            refine pure_ (i := 27) (N := some 84) (v := undef) (a' := ?_) #[true, true, true, true, true, true, true, true, true, true, true, true, true, true, true, true, true, true, true, true, true, true, true, true, true, true, true, true, false, false, false] rfl rfl (any_of HT_.out (by kernel_rfl)) (fun _ _ _ h => h) (Or.inr ⟨by rfl, rfl⟩) ?_ ?_
            rotate_left
            · simp only [Act.put, List.setIfInBounds_toArray, List.set_cons_zero, List.set_cons_succ, i64_w, i32_w]
              rfl
            refine pure_ (i := 28) (N := some 85) (v := undef) (a' := ?_) #[true, true, true, true, true, true, true, true, true, true, true, true, true, true, true, true, true, true, true, true, true, true, true, true, true, true, true, true, true, false, false] rfl rfl (any_of HT_.out (by kernel_rfl)) (fun _ _ _ h => h) (Or.inr ⟨by rfl, rfl⟩) ?_ ?_
            rotate_left
            · simp only [Act.put, List.setIfInBounds_toArray, List.set_cons_zero, List.set_cons_succ, i64_w, i32_w]
              rfl
            refine pure_ (i := 29) (N := some 86) (v := undef) (a' := ?_) #[true, true, true, true, true, true, true, true, true, true, true, true, true, true, true, true, true, true, true, true, true, true, true, true, true, true, true, true, true, true, false] rfl rfl (any_of HT_.out (by kernel_rfl)) (fun _ _ _ h => h) (Or.inr ⟨by rfl, rfl⟩) ?_ ?_
            rotate_left
            · simp only [Act.put, List.setIfInBounds_toArray, List.set_cons_zero, List.set_cons_succ, i64_w, i32_w]
              rfl
            refine pureA 30 87 HT_ ?_
            refine done_ (done_of HT_.out (by kernel_rfl)) ?_
            try go_wp2
            go_meet
            case rel => exact ⟨_, (true), (by first | (with_reducible rfl) | rfl | (simp; done) | (simp [*]; done)), H', ⟨by have := HJ3.out; first | omega | exact Nat.le_refl _⟩, ⟨by (with_reducible repeat (first | apply Kd.V_alloc | apply Kd.V_drewN | apply Kd.V_drew)); exact HO288.out⟩, ⟨by (with_reducible repeat (first | apply Kd.V_alloc | apply Kd.V_drewN | apply Kd.V_drew)); exact HO291.out⟩, ⟨bo BK277⟩, ⟨bo BK278⟩, ⟨bo BK279⟩, ⟨bo BK296⟩, ⟨bo BK297⟩, ⟨bl HB⟩⟩
        case rest =>
          as_aux_lemma =>
          clear HC67
          try clear c1
          try clear p2
          try clear c9
          try clear c13
          try clear c90
          try clear c92
          try clear c92b0
          try clear c92b1
          obtain ⟨kq, x87_66, rfl, HA, HJ66, HO_297002, HO_297003, BK277, BK278, BK279, BK296, BK297, HB⟩ := hcut
          cases kq with
          | zero => exact absurd HA.out (by simp [sandglasslaw11_FixedMay.j1])
          | succ kj66 =>
            have H := HA.out
            clear HA
            simp only [sandglasslaw11_FixedMay.j1] at H
            by_cases c105 : x87_66 = true
            · subst c105
              rw [if_pos rfl] at H
              exact absurd H (by simp)
            · replace c105 := Bool.eq_false_iff.mpr c105
              subst c105
              rw [if_neg (show ¬ (false = true) by decide)] at H
              have HC106 := Aside0.mk H
              clear H
              have hnb107 := NB297_277.out
              have hnc107 := NB277_297.out
              have hnb108 := NB297_278.out
              have hnc108 := NB278_297.out
              have hnb109 := NB297_279.out
              have hnc109 := NB279_297.out
              have hnb110 := NB297_296.out
              have hnc110 := NB296_297.out
              obtain ⟨hcz111_0, hcz111_1, hcz111_2, hcz111_3⟩ := ce4 BK297
              obtain ⟨hfz111_0, hfz111_1, hfz111_2, hfz111_3⟩ := fr4 BK297
              go_upto_if 90 with (fail)
              go_cut [] (fun wc => ∃ (kq : Nat), Aside0 (sandglasslaw11_FixedMay.j2 kq a2_1 a0_0 a0_1 a0_2 a0_3 t284 t285 t286 t289 t292 t293 t294 t295 = some r) ∧ Aside0 (kq ≤ kj66) ∧ Aside0 (Kd.V (Kd.int .i64) 3 wc w.heap.size (fun k_ => k_ ≠ gb277 ∧ k_ ≠ gb278 ∧ k_ ≠ gb279 ∧ k_ ≠ gb296 ∧ k_ ≠ gb297) (.slice Ao81 t286.length co81) t286) ∧ Aside0 (Kd.V k53 53 wc w.heap.size (fun k_ => k_ ≠ gb277 ∧ k_ ≠ gb278 ∧ k_ ≠ gb279 ∧ k_ ≠ gb296 ∧ k_ ≠ gb297) (.slice Ao82 t289.length co82) t289) ∧ Aside0 (wc.heap[gb277]? = some (.cells #[.int .i64 a0_0, .int .i64 a0_1, .int .i64 a0_2, .int .i64 a0_3] 23 (0, 0))) ∧ Aside0 (wc.heap[gb278]? = some (.cells #[.int .i64 a1_0, .int .i64 a1_1, (.slice A1_2 l1_2.length c1_2), (.slice A1_3 l1_3.length c1_3)] 27 (0, 0))) ∧ Aside0 (wc.heap[gb279]? = some (.cells #[.int .i64 a2_0, .int .i64 a2_1] 28 (0, 0))) ∧ Aside0 (wc.heap[gb296]? = some (.cells #[.int .i64 t284, .int .i64 t285, (.slice Ao81 t286.length co81), (.slice Ao82 t289.length co82)] 27 (0, 0))) ∧ Aside0 (wc.heap[gb297]? = some (.cells #[.bool t292, .int .i64 t293, .int .i64 t294, .int .i64 t295] 32 (0, 0))) ∧ Aside0 (Below w.heap.size w wc))
              case first =>
                as_aux_lemma =>
                have H := HC106.out
                clear HC106
                by_cases c112 : t293 > 0
                · rw [if_pos c112] at H
                  have c112b0 : decide (0 < t293) = true := decide_eq_true c112
                  clear c112
                  (first | rw [c112b0] | (simp only [i64_w, i32_w]; rw [c112b0]) | skip)
                  replace H := Option.bind_eq_some_iff.mp H
                  obtain ⟨⟨t300, t301, t302, t305, t308, t309, t310, t311⟩, A1130, H⟩ := H
                  have A113 := Aside0.mk A1130
                  clear A1130
                  by_cases c114 : t308 = true
                  · subst c114
                    rw [if_pos rfl] at H
                    have H' := Aside0.mk H
                    clear H
                    have hnb115 := NB277_278.out
                    have hnc115 := NB278_277.out
                    have hnb116 := NB277_279.out
                    have hnc116 := NB279_277.out
                    have hnb117 := NB277_296.out
                    have hnc117 := NB296_277.out
                    have hnb118 := NB277_297.out
                    have hnc118 := NB297_277.out
                    obtain ⟨hcz119_0, hcz119_1, hcz119_2, hcz119_3⟩ := ce4 BK277
                    obtain ⟨hfz119_0, hfz119_1, hfz119_2, hfz119_3⟩ := fr4 BK277
                    have hnb120 := NB296_278.out
                    have hnc120 := NB278_296.out
                    have hnb121 := NB296_279.out
                    have hnc121 := NB279_296.out
                    have hnb122 := NB296_297.out
                    have hnc122 := NB297_296.out
                    obtain ⟨hcz123_0, hcz123_1, hcz123_2, hcz123_3⟩ := ce4 BK296
                    obtain ⟨hfz123_0, hfz123_1, hfz123_2, hfz123_3⟩ := fr4 BK296
                    have hnb124 := NB297_278.out
                    have hnc124 := NB278_297.out
                    have hnb125 := NB297_279.out
                    have hnc125 := NB279_297.out
                    obtain ⟨hcz126_0, hcz126_1, hcz126_2, hcz126_3⟩ := ce4 BK297
                    obtain ⟨hfz126_0, hfz126_1, hfz126_2, hfz126_3⟩ := fr4 BK297
                    go_wp2_with (first | ((with_reducible refine gate_callee (f := 10) rfl ?_); refine goesL_ (some 98) rfl rfl Try.func10 (by kernel_rfl) rfl #[.agg #[.int .i64 a0_0, .int .i64 a0_1, .int .i64 a0_2, .int .i64 a0_3], .agg #[.int .i64 t284, .int .i64 t285, .slice Ao81 t286.length co81, .slice Ao82 t289.length co82], .int .i64 t284, .int .i64 t293] rfl (by (try simp only [List.map_toArray, List.map_cons, List.map_nil]); first | done | rfl | (simp only [List.length_drop, List.length_take]; rfl)) ?_; (with_reducible refine (fixed_Ask.calls kj66 a0_0 a0_1 a0_2 a0_3 t284 t285 (fun k_ => (k_ ≠ gb277 ∧ (k_ ≠ gb278 ∧ (k_ ≠ gb279 ∧ (k_ ≠ gb296 ∧ k_ ≠ gb297))))) _ _ t286 (fun k_ => (k_ ≠ gb277 ∧ (k_ ≠ gb278 ∧ (k_ ≠ gb279 ∧ (k_ ≠ gb296 ∧ k_ ≠ gb297))))) _ _ t289 t284 t293 t300 t301 t302 t305 true t309 t310 t311 _ ?side1 ?side2 A113.out).mono ?_); (case side1 => exact HO_297002.out); (case side2 => exact HO_297003.out); rintro e w127 ⟨v303, v306, rfl, ho0, ho1, hb⟩; refine ⟨_, rfl, ?_⟩; have HO304 := Aside0.mk (Kd.V_lower (Kd.V_mono (ok' := fun k_ => k_ ≠ gb277 ∧ k_ ≠ gb278 ∧ k_ ≠ gb279 ∧ k_ ≠ gb296 ∧ k_ ≠ gb297) ho0 (fun k_ hk_ => ⟨Or.elim hk_ (fun hs_ => Or.elim hs_ (fun hs_ => hs_.1) (fun hs_ => hs_.1)) (fun hn_ => (Kd.freshB (bo BK277) k_ hn_)), Or.elim hk_ (fun hs_ => Or.elim hs_ (fun hs_ => hs_.2.1) (fun hs_ => hs_.2.1)) (fun hn_ => (Kd.freshB (bo BK278) k_ hn_)), Or.elim hk_ (fun hs_ => Or.elim hs_ (fun hs_ => hs_.2.2.1) (fun hs_ => hs_.2.2.1)) (fun hn_ => (Kd.freshB (bo BK279) k_ hn_)), Or.elim hk_ (fun hs_ => Or.elim hs_ (fun hs_ => hs_.2.2.2.1) (fun hs_ => hs_.2.2.2.1)) (fun hn_ => (Kd.freshB (bo BK296) k_ hn_)), Or.elim hk_ (fun hs_ => Or.elim hs_ (fun hs_ => hs_.2.2.2.2) (fun hs_ => hs_.2.2.2.2)) (fun hn_ => (Kd.freshB (bo BK297) k_ hn_))⟩)) (below_size (bl HB))); have HO307 := Aside0.mk (Kd.V_lower (Kd.V_mono (ok' := fun k_ => k_ ≠ gb277 ∧ k_ ≠ gb278 ∧ k_ ≠ gb279 ∧ k_ ≠ gb296 ∧ k_ ≠ gb297) ho1 (fun k_ hk_ => ⟨Or.elim hk_ (fun hs_ => Or.elim hs_ (fun hs_ => hs_.1) (fun hs_ => hs_.1)) (fun hn_ => (Kd.freshB (bo BK277) k_ hn_)), Or.elim hk_ (fun hs_ => Or.elim hs_ (fun hs_ => hs_.2.1) (fun hs_ => hs_.2.1)) (fun hn_ => (Kd.freshB (bo BK278) k_ hn_)), Or.elim hk_ (fun hs_ => Or.elim hs_ (fun hs_ => hs_.2.2.1) (fun hs_ => hs_.2.2.1)) (fun hn_ => (Kd.freshB (bo BK279) k_ hn_)), Or.elim hk_ (fun hs_ => Or.elim hs_ (fun hs_ => hs_.2.2.2.1) (fun hs_ => hs_.2.2.2.1)) (fun hn_ => (Kd.freshB (bo BK296) k_ hn_)), Or.elim hk_ (fun hs_ => Or.elim hs_ (fun hs_ => hs_.2.2.2.2) (fun hs_ => hs_.2.2.2.2)) (fun hn_ => (Kd.freshB (bo BK297) k_ hn_))⟩)) (below_size (bl HB))); replace HO_297002 := vb HO_297002 hb; replace HO_297003 := vb HO_297003 hb; replace BK277 := Aside0.mk (blk_below (bo BK277) hb); replace BK278 := Aside0.mk (blk_below (bo BK278) hb); replace BK279 := Aside0.mk (blk_below (bo BK279) hb); replace BK296 := Aside0.mk (blk_below (bo BK296) hb); replace BK297 := Aside0.mk (blk_below (bo BK297) hb); replace HB := Aside0.mk (below_step (bl HB) hb); (try clear hb); (try clear hb2); (try clear hk); (try clear hi); (try clear ho0); (try clear ho1)) | ((with_reducible refine gate_dst (N := 11) rfl ?_); (try (refine gate_guard (by rfl) ?_; dsimp only)); refine box_event ?hg (N := 11) ?hd (cs := #[.int .i64 0, .int .i64 0, .slice none 0 0, .slice none 0 0]) (t := 27) ?hr ?_; (case hd => rfl); (case hg => rfl); (case hr => first | (go_simp; done) | (go_simp; rfl)); intro gb312 hg w128 hbox hb; have BK312 := Aside0.mk (hbox); have GW312 := Aside0.mk ((by rw [hg]; exact (below_size (bl HB)) : w.heap.size ≤ gb312)); have GE312 := Aside0.mk ((by rw [hg]; exact (below_size (bl HB)) : w.heap.size ≤ gb312)); have NB277_312 := nb BK277 hg; have NB312_277 := bn BK277 hg; have NB278_312 := nb BK278 hg; have NB312_278 := bn BK278 hg; have NB279_312 := nb BK279 hg; have NB312_279 := bn BK279 hg; have NB296_312 := nb BK296 hg; have NB312_296 := bn BK296 hg; have NB297_312 := nb BK297 hg; have NB312_297 := bn BK297 hg; replace HO_297002 := ve HO_297002 hg hb; replace HO_297003 := ve HO_297003 hg hb; replace HO304 := ve HO304 hg hb; replace HO307 := ve HO307 hg hb; replace BK277 := Aside0.mk (blk_below (bo BK277) hb); replace BK278 := Aside0.mk (blk_below (bo BK278) hb); replace BK279 := Aside0.mk (blk_below (bo BK279) hb); replace BK296 := Aside0.mk (blk_below (bo BK296) hb); replace BK297 := Aside0.mk (blk_below (bo BK297) hb); replace HB := Aside0.mk (below_step (bl HB) hb); clear hb hbox hg) | ((with_reducible refine gate_dst (N := 12) rfl ?_); (try (refine gate_guard (by rfl) ?_; dsimp only)); refine box_event ?hg (N := 12) ?hd (cs := #[.bool false, .int .i64 0, .int .i64 0, .int .i64 0]) (t := 32) ?hr ?_; (case hd => rfl); (case hg => rfl); (case hr => first | (go_simp; done) | (go_simp; rfl)); intro gb313 hg w129 hbox hb; have BK313 := Aside0.mk (hbox); have GW313 := Aside0.mk ((by rw [hg]; exact (below_size (bl HB)) : w.heap.size ≤ gb313)); have GE313 := Aside0.mk ((by rw [hg]; exact (below_size (bl HB)) : w.heap.size ≤ gb313)); have NB277_313 := nb BK277 hg; have NB313_277 := bn BK277 hg; have NB278_313 := nb BK278 hg; have NB313_278 := bn BK278 hg; have NB279_313 := nb BK279 hg; have NB313_279 := bn BK279 hg; have NB296_313 := nb BK296 hg; have NB313_296 := bn BK296 hg; have NB297_313 := nb BK297 hg; have NB313_297 := bn BK297 hg; have NB312_313 := nb BK312 hg; have NB313_312 := bn BK312 hg; replace HO_297002 := ve HO_297002 hg hb; replace HO_297003 := ve HO_297003 hg hb; replace HO304 := ve HO304 hg hb; replace HO307 := ve HO307 hg hb; replace BK277 := Aside0.mk (blk_below (bo BK277) hb); replace BK278 := Aside0.mk (blk_below (bo BK278) hb); replace BK279 := Aside0.mk (blk_below (bo BK279) hb); replace BK296 := Aside0.mk (blk_below (bo BK296) hb); replace BK297 := Aside0.mk (blk_below (bo BK297) hb); replace BK312 := Aside0.mk (blk_below (bo BK312) hb); replace HB := Aside0.mk (below_step (bl HB) hb); clear hb hbox hg; have hnb130 := NB312_277.out; have hnc130 := NB277_312.out; have hnb131 := NB312_278.out; have hnc131 := NB278_312.out; have hnb132 := NB312_279.out; have hnc132 := NB279_312.out; have hnb133 := NB312_296.out; have hnc133 := NB296_312.out; have hnb134 := NB312_297.out; have hnc134 := NB297_312.out; have hnb135 := NB312_313.out; have hnc135 := NB313_312.out; obtain ⟨hcz136_0, hcz136_1, hcz136_2, hcz136_3⟩ := ce4 BK312; obtain ⟨hfz136_0, hfz136_1, hfz136_2, hfz136_3⟩ := fr4 BK312; obtain ⟨Ao137, co137, eo137⟩ := Kd.V_slice HO304.out; subst eo137; obtain ⟨Ao138, co138, eo138⟩ := Kd.V_slice HO307.out; subst eo138) | ((with_reducible refine gate_store (t := 27) (p := 11) rfl ?_); refine store_event (t := 27) (p := 11) (v := ?vo_w139) (w1 := ((((w129.setCell ⟨gb312, 0, none⟩ (.int .i64 t300)).setCell ⟨gb312, 1, none⟩ (.int .i64 t301)).setCell ⟨gb312, 2, none⟩ (.slice Ao137 t302.length co137)).setCell ⟨gb312, 3, none⟩ (.slice Ao138 t305.length co138))) ?hg ?ho ?hn ?hr ?_; (case ho => rfl); (case hg => rfl); (case hn => rfl); (case hr => first | (go_simp; done) | (go_simp; rfl)); intro w139 hw; replace HO_297002 : Aside0 (Kd.V (Kd.int .i64) 3 w139 w.heap.size (fun k_ => k_ ≠ gb277 ∧ k_ ≠ gb278 ∧ k_ ≠ gb279 ∧ k_ ≠ gb296 ∧ k_ ≠ gb297 ∧ k_ ≠ gb312 ∧ k_ ≠ gb313) (.slice Ao81 t286.length co81) t286) := ⟨(by rw [hw]; exact (by (with_reducible repeat (first | apply Kd.V_alloc | apply Kd.V_drewN | apply Kd.V_drew)); exact Kd.V_mono (Kd.V_far (p := ⟨gb312, 3, none⟩) (Kd.V_far (p := ⟨gb312, 2, none⟩) (Kd.V_far (p := ⟨gb312, 1, none⟩) (Kd.V_far (p := ⟨gb312, 0, none⟩) (Kd.V_mono HO_297002.out (fun k_ hk => (⟨hk, hk.1.2⟩ : _ ∧ k_ ≠ gb312))) (fun _ hk => hk.2) (.int .i64 t300)) (fun _ hk => hk.2) (.int .i64 t301)) (fun _ hk => hk.2) (.slice Ao137 t302.length co137)) (fun _ hk => hk.2) (.slice Ao138 t305.length co138)) (fun _ hk => ⟨hk.1.1.1.1, ⟨hk.1.1.1.2.1, ⟨hk.1.1.1.2.2.1, ⟨hk.1.1.1.2.2.2.1, ⟨hk.1.1.1.2.2.2.2, ⟨hk.1.1.2, hk.1.2⟩⟩⟩⟩⟩⟩)))⟩; replace HO_297003 : Aside0 (Kd.V k53 53 w139 w.heap.size (fun k_ => k_ ≠ gb277 ∧ k_ ≠ gb278 ∧ k_ ≠ gb279 ∧ k_ ≠ gb296 ∧ k_ ≠ gb297 ∧ k_ ≠ gb312 ∧ k_ ≠ gb313) (.slice Ao82 t289.length co82) t289) := ⟨(by rw [hw]; exact (by (with_reducible repeat (first | apply Kd.V_alloc | apply Kd.V_drewN | apply Kd.V_drew)); exact Kd.V_mono (Kd.V_far (p := ⟨gb312, 3, none⟩) (Kd.V_far (p := ⟨gb312, 2, none⟩) (Kd.V_far (p := ⟨gb312, 1, none⟩) (Kd.V_far (p := ⟨gb312, 0, none⟩) (Kd.V_mono HO_297003.out (fun k_ hk => (⟨hk, hk.1.2⟩ : _ ∧ k_ ≠ gb312))) (fun _ hk => hk.2) (.int .i64 t300)) (fun _ hk => hk.2) (.int .i64 t301)) (fun _ hk => hk.2) (.slice Ao137 t302.length co137)) (fun _ hk => hk.2) (.slice Ao138 t305.length co138)) (fun _ hk => ⟨hk.1.1.1.1, ⟨hk.1.1.1.2.1, ⟨hk.1.1.1.2.2.1, ⟨hk.1.1.1.2.2.2.1, ⟨hk.1.1.1.2.2.2.2, ⟨hk.1.1.2, hk.1.2⟩⟩⟩⟩⟩⟩)))⟩; replace HO304 : Aside0 (Kd.V (Kd.int .i64) 3 w139 w.heap.size (fun k_ => k_ ≠ gb277 ∧ k_ ≠ gb278 ∧ k_ ≠ gb279 ∧ k_ ≠ gb296 ∧ k_ ≠ gb297 ∧ k_ ≠ gb312 ∧ k_ ≠ gb313) (.slice Ao137 t302.length co137) t302) := ⟨(by rw [hw]; exact (by (with_reducible repeat (first | apply Kd.V_alloc | apply Kd.V_drewN | apply Kd.V_drew)); exact Kd.V_mono (Kd.V_far (p := ⟨gb312, 3, none⟩) (Kd.V_far (p := ⟨gb312, 2, none⟩) (Kd.V_far (p := ⟨gb312, 1, none⟩) (Kd.V_far (p := ⟨gb312, 0, none⟩) (Kd.V_mono HO304.out (fun k_ hk => (⟨hk, hk.1.2⟩ : _ ∧ k_ ≠ gb312))) (fun _ hk => hk.2) (.int .i64 t300)) (fun _ hk => hk.2) (.int .i64 t301)) (fun _ hk => hk.2) (.slice Ao137 t302.length co137)) (fun _ hk => hk.2) (.slice Ao138 t305.length co138)) (fun _ hk => ⟨hk.1.1.1.1, ⟨hk.1.1.1.2.1, ⟨hk.1.1.1.2.2.1, ⟨hk.1.1.1.2.2.2.1, ⟨hk.1.1.1.2.2.2.2, ⟨hk.1.1.2, hk.1.2⟩⟩⟩⟩⟩⟩)))⟩; replace HO307 : Aside0 (Kd.V k53 53 w139 w.heap.size (fun k_ => k_ ≠ gb277 ∧ k_ ≠ gb278 ∧ k_ ≠ gb279 ∧ k_ ≠ gb296 ∧ k_ ≠ gb297 ∧ k_ ≠ gb312 ∧ k_ ≠ gb313) (.slice Ao138 t305.length co138) t305) := ⟨(by rw [hw]; exact (by (with_reducible repeat (first | apply Kd.V_alloc | apply Kd.V_drewN | apply Kd.V_drew)); exact Kd.V_mono (Kd.V_far (p := ⟨gb312, 3, none⟩) (Kd.V_far (p := ⟨gb312, 2, none⟩) (Kd.V_far (p := ⟨gb312, 1, none⟩) (Kd.V_far (p := ⟨gb312, 0, none⟩) (Kd.V_mono HO307.out (fun k_ hk => (⟨hk, hk.1.2⟩ : _ ∧ k_ ≠ gb312))) (fun _ hk => hk.2) (.int .i64 t300)) (fun _ hk => hk.2) (.int .i64 t301)) (fun _ hk => hk.2) (.slice Ao137 t302.length co137)) (fun _ hk => hk.2) (.slice Ao138 t305.length co138)) (fun _ hk => ⟨hk.1.1.1.1, ⟨hk.1.1.1.2.1, ⟨hk.1.1.1.2.2.1, ⟨hk.1.1.1.2.2.2.1, ⟨hk.1.1.1.2.2.2.2, ⟨hk.1.1.2, hk.1.2⟩⟩⟩⟩⟩⟩)))⟩; replace BK277 : Aside0 (w139.heap[gb277]? = some (.cells #[.int .i64 a0_0, .int .i64 a0_1, .int .i64 a0_2, .int .i64 a0_3] 23 (0, 0))) := ⟨(by rw [hw]; exact (by (with_reducible repeat (first | refine blk_drewN ?_ _ | refine blk_drew ?_ | refine blk_alloc ?_ _)); refine blk_far ?_ NB277_312.out _; (with_reducible repeat (first | refine blk_drewN ?_ _ | refine blk_drew ?_ | refine blk_alloc ?_ _)); refine blk_far ?_ NB277_312.out _; (with_reducible repeat (first | refine blk_drewN ?_ _ | refine blk_drew ?_ | refine blk_alloc ?_ _)); refine blk_far ?_ NB277_312.out _; (with_reducible repeat (first | refine blk_drewN ?_ _ | refine blk_drew ?_ | refine blk_alloc ?_ _)); refine blk_far ?_ NB277_312.out _; (with_reducible repeat (first | refine blk_drewN ?_ _ | refine blk_drew ?_ | refine blk_alloc ?_ _)); exact BK277.out))⟩; replace BK278 : Aside0 (w139.heap[gb278]? = some (.cells #[.int .i64 a1_0, .int .i64 a1_1, .slice A1_2 l1_2.length c1_2, .slice A1_3 l1_3.length c1_3] 27 (0, 0))) := ⟨(by rw [hw]; exact (by (with_reducible repeat (first | refine blk_drewN ?_ _ | refine blk_drew ?_ | refine blk_alloc ?_ _)); refine blk_far ?_ NB278_312.out _; (with_reducible repeat (first | refine blk_drewN ?_ _ | refine blk_drew ?_ | refine blk_alloc ?_ _)); refine blk_far ?_ NB278_312.out _; (with_reducible repeat (first | refine blk_drewN ?_ _ | refine blk_drew ?_ | refine blk_alloc ?_ _)); refine blk_far ?_ NB278_312.out _; (with_reducible repeat (first | refine blk_drewN ?_ _ | refine blk_drew ?_ | refine blk_alloc ?_ _)); refine blk_far ?_ NB278_312.out _; (with_reducible repeat (first | refine blk_drewN ?_ _ | refine blk_drew ?_ | refine blk_alloc ?_ _)); exact BK278.out))⟩; replace BK279 : Aside0 (w139.heap[gb279]? = some (.cells #[.int .i64 a2_0, .int .i64 a2_1] 28 (0, 0))) := ⟨(by rw [hw]; exact (by (with_reducible repeat (first | refine blk_drewN ?_ _ | refine blk_drew ?_ | refine blk_alloc ?_ _)); refine blk_far ?_ NB279_312.out _; (with_reducible repeat (first | refine blk_drewN ?_ _ | refine blk_drew ?_ | refine blk_alloc ?_ _)); refine blk_far ?_ NB279_312.out _; (with_reducible repeat (first | refine blk_drewN ?_ _ | refine blk_drew ?_ | refine blk_alloc ?_ _)); refine blk_far ?_ NB279_312.out _; (with_reducible repeat (first | refine blk_drewN ?_ _ | refine blk_drew ?_ | refine blk_alloc ?_ _)); refine blk_far ?_ NB279_312.out _; (with_reducible repeat (first | refine blk_drewN ?_ _ | refine blk_drew ?_ | refine blk_alloc ?_ _)); exact BK279.out))⟩; replace BK296 : Aside0 (w139.heap[gb296]? = some (.cells #[.int .i64 t284, .int .i64 t285, .slice Ao81 t286.length co81, .slice Ao82 t289.length co82] 27 (0, 0))) := ⟨(by rw [hw]; exact (by (with_reducible repeat (first | refine blk_drewN ?_ _ | refine blk_drew ?_ | refine blk_alloc ?_ _)); refine blk_far ?_ NB296_312.out _; (with_reducible repeat (first | refine blk_drewN ?_ _ | refine blk_drew ?_ | refine blk_alloc ?_ _)); refine blk_far ?_ NB296_312.out _; (with_reducible repeat (first | refine blk_drewN ?_ _ | refine blk_drew ?_ | refine blk_alloc ?_ _)); refine blk_far ?_ NB296_312.out _; (with_reducible repeat (first | refine blk_drewN ?_ _ | refine blk_drew ?_ | refine blk_alloc ?_ _)); refine blk_far ?_ NB296_312.out _; (with_reducible repeat (first | refine blk_drewN ?_ _ | refine blk_drew ?_ | refine blk_alloc ?_ _)); exact BK296.out))⟩; replace BK297 : Aside0 (w139.heap[gb297]? = some (.cells #[.bool t292, .int .i64 t293, .int .i64 t294, .int .i64 t295] 32 (0, 0))) := ⟨(by rw [hw]; exact (by (with_reducible repeat (first | refine blk_drewN ?_ _ | refine blk_drew ?_ | refine blk_alloc ?_ _)); refine blk_far ?_ NB297_312.out _; (with_reducible repeat (first | refine blk_drewN ?_ _ | refine blk_drew ?_ | refine blk_alloc ?_ _)); refine blk_far ?_ NB297_312.out _; (with_reducible repeat (first | refine blk_drewN ?_ _ | refine blk_drew ?_ | refine blk_alloc ?_ _)); refine blk_far ?_ NB297_312.out _; (with_reducible repeat (first | refine blk_drewN ?_ _ | refine blk_drew ?_ | refine blk_alloc ?_ _)); refine blk_far ?_ NB297_312.out _; (with_reducible repeat (first | refine blk_drewN ?_ _ | refine blk_drew ?_ | refine blk_alloc ?_ _)); exact BK297.out))⟩; replace BK312 : Aside0 (w139.heap[gb312]? = some (.cells #[.int .i64 t300, .int .i64 t301, .slice Ao137 t302.length co137, .slice Ao138 t305.length co138] 27 (0, 0))) := ⟨(by rw [hw]; exact (by (with_reducible repeat (first | refine blk_drewN ?_ _ | refine blk_drew ?_ | refine blk_alloc ?_ _)); refine blk_put (cs := #[.int .i64 t300, .int .i64 t301, .slice Ao137 t302.length co137, .slice none 0 0]) ?_ 3 _ rfl; (with_reducible repeat (first | refine blk_drewN ?_ _ | refine blk_drew ?_ | refine blk_alloc ?_ _)); refine blk_put (cs := #[.int .i64 t300, .int .i64 t301, .slice none 0 0, .slice none 0 0]) ?_ 2 _ rfl; (with_reducible repeat (first | refine blk_drewN ?_ _ | refine blk_drew ?_ | refine blk_alloc ?_ _)); refine blk_put (cs := #[.int .i64 t300, .int .i64 0, .slice none 0 0, .slice none 0 0]) ?_ 1 _ rfl; (with_reducible repeat (first | refine blk_drewN ?_ _ | refine blk_drew ?_ | refine blk_alloc ?_ _)); refine blk_put (cs := #[.int .i64 0, .int .i64 0, .slice none 0 0, .slice none 0 0]) ?_ 0 _ rfl; (with_reducible repeat (first | refine blk_drewN ?_ _ | refine blk_drew ?_ | refine blk_alloc ?_ _)); exact BK312.out))⟩; replace BK313 : Aside0 (w139.heap[gb313]? = some (.cells #[.bool false, .int .i64 0, .int .i64 0, .int .i64 0] 32 (0, 0))) := ⟨(by rw [hw]; exact (by (with_reducible repeat (first | refine blk_drewN ?_ _ | refine blk_drew ?_ | refine blk_alloc ?_ _)); refine blk_far ?_ NB313_312.out _; (with_reducible repeat (first | refine blk_drewN ?_ _ | refine blk_drew ?_ | refine blk_alloc ?_ _)); refine blk_far ?_ NB313_312.out _; (with_reducible repeat (first | refine blk_drewN ?_ _ | refine blk_drew ?_ | refine blk_alloc ?_ _)); refine blk_far ?_ NB313_312.out _; (with_reducible repeat (first | refine blk_drewN ?_ _ | refine blk_drew ?_ | refine blk_alloc ?_ _)); refine blk_far ?_ NB313_312.out _; (with_reducible repeat (first | refine blk_drewN ?_ _ | refine blk_drew ?_ | refine blk_alloc ?_ _)); exact BK313.out))⟩; replace HB : Aside0 (Below w.heap.size w w139) := ⟨(by rw [hw]; exact (bl HB))⟩; clear hw; have hnb140 := NB313_277.out; have hnc140 := NB277_313.out; have hnb141 := NB313_278.out; have hnc141 := NB278_313.out; have hnb142 := NB313_279.out; have hnc142 := NB279_313.out; have hnb143 := NB313_296.out; have hnc143 := NB296_313.out; have hnb144 := NB313_297.out; have hnc144 := NB297_313.out; obtain ⟨hcz145_0, hcz145_1, hcz145_2, hcz145_3⟩ := ce4 BK313; obtain ⟨hfz145_0, hfz145_1, hfz145_2, hfz145_3⟩ := fr4 BK313) | ((with_reducible refine gate_store (t := 32) (p := 12) rfl ?_); refine store_event (t := 32) (p := 12) (v := ?vo_w146) (w1 := ((((w139.setCell ⟨gb313, 0, none⟩ (.bool true)).setCell ⟨gb313, 1, none⟩ (.int .i64 t309)).setCell ⟨gb313, 2, none⟩ (.int .i64 t310)).setCell ⟨gb313, 3, none⟩ (.int .i64 t311))) ?hg ?ho ?hn ?hr ?_; (case ho => rfl); (case hg => rfl); (case hn => rfl); (case hr => first | (go_simp; done) | (go_simp; rfl)); intro w146 hw; replace HO_297002 : Aside0 (Kd.V (Kd.int .i64) 3 w146 w.heap.size (fun k_ => k_ ≠ gb277 ∧ k_ ≠ gb278 ∧ k_ ≠ gb279 ∧ k_ ≠ gb296 ∧ k_ ≠ gb297 ∧ k_ ≠ gb312 ∧ k_ ≠ gb313) (.slice Ao81 t286.length co81) t286) := ⟨(by rw [hw]; exact (by (with_reducible repeat (first | apply Kd.V_alloc | apply Kd.V_drewN | apply Kd.V_drew)); exact Kd.V_mono (Kd.V_far (p := ⟨gb313, 3, none⟩) (Kd.V_far (p := ⟨gb313, 2, none⟩) (Kd.V_far (p := ⟨gb313, 1, none⟩) (Kd.V_far (p := ⟨gb313, 0, none⟩) (Kd.V_mono HO_297002.out (fun k_ hk => (⟨hk, hk.2.2.2.2.2.2⟩ : _ ∧ k_ ≠ gb313))) (fun _ hk => hk.2) (.bool true)) (fun _ hk => hk.2) (.int .i64 t309)) (fun _ hk => hk.2) (.int .i64 t310)) (fun _ hk => hk.2) (.int .i64 t311)) (fun _ hk => ⟨hk.1.1, ⟨hk.1.2.1, ⟨hk.1.2.2.1, ⟨hk.1.2.2.2.1, ⟨hk.1.2.2.2.2.1, ⟨hk.1.2.2.2.2.2.1, hk.1.2.2.2.2.2.2⟩⟩⟩⟩⟩⟩)))⟩; replace HO_297003 : Aside0 (Kd.V k53 53 w146 w.heap.size (fun k_ => k_ ≠ gb277 ∧ k_ ≠ gb278 ∧ k_ ≠ gb279 ∧ k_ ≠ gb296 ∧ k_ ≠ gb297 ∧ k_ ≠ gb312 ∧ k_ ≠ gb313) (.slice Ao82 t289.length co82) t289) := ⟨(by rw [hw]; exact (by (with_reducible repeat (first | apply Kd.V_alloc | apply Kd.V_drewN | apply Kd.V_drew)); exact Kd.V_mono (Kd.V_far (p := ⟨gb313, 3, none⟩) (Kd.V_far (p := ⟨gb313, 2, none⟩) (Kd.V_far (p := ⟨gb313, 1, none⟩) (Kd.V_far (p := ⟨gb313, 0, none⟩) (Kd.V_mono HO_297003.out (fun k_ hk => (⟨hk, hk.2.2.2.2.2.2⟩ : _ ∧ k_ ≠ gb313))) (fun _ hk => hk.2) (.bool true)) (fun _ hk => hk.2) (.int .i64 t309)) (fun _ hk => hk.2) (.int .i64 t310)) (fun _ hk => hk.2) (.int .i64 t311)) (fun _ hk => ⟨hk.1.1, ⟨hk.1.2.1, ⟨hk.1.2.2.1, ⟨hk.1.2.2.2.1, ⟨hk.1.2.2.2.2.1, ⟨hk.1.2.2.2.2.2.1, hk.1.2.2.2.2.2.2⟩⟩⟩⟩⟩⟩)))⟩; replace HO304 : Aside0 (Kd.V (Kd.int .i64) 3 w146 w.heap.size (fun k_ => k_ ≠ gb277 ∧ k_ ≠ gb278 ∧ k_ ≠ gb279 ∧ k_ ≠ gb296 ∧ k_ ≠ gb297 ∧ k_ ≠ gb312 ∧ k_ ≠ gb313) (.slice Ao137 t302.length co137) t302) := ⟨(by rw [hw]; exact (by (with_reducible repeat (first | apply Kd.V_alloc | apply Kd.V_drewN | apply Kd.V_drew)); exact Kd.V_mono (Kd.V_far (p := ⟨gb313, 3, none⟩) (Kd.V_far (p := ⟨gb313, 2, none⟩) (Kd.V_far (p := ⟨gb313, 1, none⟩) (Kd.V_far (p := ⟨gb313, 0, none⟩) (Kd.V_mono HO304.out (fun k_ hk => (⟨hk, hk.2.2.2.2.2.2⟩ : _ ∧ k_ ≠ gb313))) (fun _ hk => hk.2) (.bool true)) (fun _ hk => hk.2) (.int .i64 t309)) (fun _ hk => hk.2) (.int .i64 t310)) (fun _ hk => hk.2) (.int .i64 t311)) (fun _ hk => ⟨hk.1.1, ⟨hk.1.2.1, ⟨hk.1.2.2.1, ⟨hk.1.2.2.2.1, ⟨hk.1.2.2.2.2.1, ⟨hk.1.2.2.2.2.2.1, hk.1.2.2.2.2.2.2⟩⟩⟩⟩⟩⟩)))⟩; replace HO307 : Aside0 (Kd.V k53 53 w146 w.heap.size (fun k_ => k_ ≠ gb277 ∧ k_ ≠ gb278 ∧ k_ ≠ gb279 ∧ k_ ≠ gb296 ∧ k_ ≠ gb297 ∧ k_ ≠ gb312 ∧ k_ ≠ gb313) (.slice Ao138 t305.length co138) t305) := ⟨(by rw [hw]; exact (by (with_reducible repeat (first | apply Kd.V_alloc | apply Kd.V_drewN | apply Kd.V_drew)); exact Kd.V_mono (Kd.V_far (p := ⟨gb313, 3, none⟩) (Kd.V_far (p := ⟨gb313, 2, none⟩) (Kd.V_far (p := ⟨gb313, 1, none⟩) (Kd.V_far (p := ⟨gb313, 0, none⟩) (Kd.V_mono HO307.out (fun k_ hk => (⟨hk, hk.2.2.2.2.2.2⟩ : _ ∧ k_ ≠ gb313))) (fun _ hk => hk.2) (.bool true)) (fun _ hk => hk.2) (.int .i64 t309)) (fun _ hk => hk.2) (.int .i64 t310)) (fun _ hk => hk.2) (.int .i64 t311)) (fun _ hk => ⟨hk.1.1, ⟨hk.1.2.1, ⟨hk.1.2.2.1, ⟨hk.1.2.2.2.1, ⟨hk.1.2.2.2.2.1, ⟨hk.1.2.2.2.2.2.1, hk.1.2.2.2.2.2.2⟩⟩⟩⟩⟩⟩)))⟩; replace BK277 : Aside0 (w146.heap[gb277]? = some (.cells #[.int .i64 a0_0, .int .i64 a0_1, .int .i64 a0_2, .int .i64 a0_3] 23 (0, 0))) := ⟨(by rw [hw]; exact (by (with_reducible repeat (first | refine blk_drewN ?_ _ | refine blk_drew ?_ | refine blk_alloc ?_ _)); refine blk_far ?_ NB277_313.out _; (with_reducible repeat (first | refine blk_drewN ?_ _ | refine blk_drew ?_ | refine blk_alloc ?_ _)); refine blk_far ?_ NB277_313.out _; (with_reducible repeat (first | refine blk_drewN ?_ _ | refine blk_drew ?_ | refine blk_alloc ?_ _)); refine blk_far ?_ NB277_313.out _; (with_reducible repeat (first | refine blk_drewN ?_ _ | refine blk_drew ?_ | refine blk_alloc ?_ _)); refine blk_far ?_ NB277_313.out _; (with_reducible repeat (first | refine blk_drewN ?_ _ | refine blk_drew ?_ | refine blk_alloc ?_ _)); exact BK277.out))⟩; replace BK278 : Aside0 (w146.heap[gb278]? = some (.cells #[.int .i64 a1_0, .int .i64 a1_1, .slice A1_2 l1_2.length c1_2, .slice A1_3 l1_3.length c1_3] 27 (0, 0))) := ⟨(by rw [hw]; exact (by (with_reducible repeat (first | refine blk_drewN ?_ _ | refine blk_drew ?_ | refine blk_alloc ?_ _)); refine blk_far ?_ NB278_313.out _; (with_reducible repeat (first | refine blk_drewN ?_ _ | refine blk_drew ?_ | refine blk_alloc ?_ _)); refine blk_far ?_ NB278_313.out _; (with_reducible repeat (first | refine blk_drewN ?_ _ | refine blk_drew ?_ | refine blk_alloc ?_ _)); refine blk_far ?_ NB278_313.out _; (with_reducible repeat (first | refine blk_drewN ?_ _ | refine blk_drew ?_ | refine blk_alloc ?_ _)); refine blk_far ?_ NB278_313.out _; (with_reducible repeat (first | refine blk_drewN ?_ _ | refine blk_drew ?_ | refine blk_alloc ?_ _)); exact BK278.out))⟩; replace BK279 : Aside0 (w146.heap[gb279]? = some (.cells #[.int .i64 a2_0, .int .i64 a2_1] 28 (0, 0))) := ⟨(by rw [hw]; exact (by (with_reducible repeat (first | refine blk_drewN ?_ _ | refine blk_drew ?_ | refine blk_alloc ?_ _)); refine blk_far ?_ NB279_313.out _; (with_reducible repeat (first | refine blk_drewN ?_ _ | refine blk_drew ?_ | refine blk_alloc ?_ _)); refine blk_far ?_ NB279_313.out _; (with_reducible repeat (first | refine blk_drewN ?_ _ | refine blk_drew ?_ | refine blk_alloc ?_ _)); refine blk_far ?_ NB279_313.out _; (with_reducible repeat (first | refine blk_drewN ?_ _ | refine blk_drew ?_ | refine blk_alloc ?_ _)); refine blk_far ?_ NB279_313.out _; (with_reducible repeat (first | refine blk_drewN ?_ _ | refine blk_drew ?_ | refine blk_alloc ?_ _)); exact BK279.out))⟩; replace BK296 : Aside0 (w146.heap[gb296]? = some (.cells #[.int .i64 t284, .int .i64 t285, .slice Ao81 t286.length co81, .slice Ao82 t289.length co82] 27 (0, 0))) := ⟨(by rw [hw]; exact (by (with_reducible repeat (first | refine blk_drewN ?_ _ | refine blk_drew ?_ | refine blk_alloc ?_ _)); refine blk_far ?_ NB296_313.out _; (with_reducible repeat (first | refine blk_drewN ?_ _ | refine blk_drew ?_ | refine blk_alloc ?_ _)); refine blk_far ?_ NB296_313.out _; (with_reducible repeat (first | refine blk_drewN ?_ _ | refine blk_drew ?_ | refine blk_alloc ?_ _)); refine blk_far ?_ NB296_313.out _; (with_reducible repeat (first | refine blk_drewN ?_ _ | refine blk_drew ?_ | refine blk_alloc ?_ _)); refine blk_far ?_ NB296_313.out _; (with_reducible repeat (first | refine blk_drewN ?_ _ | refine blk_drew ?_ | refine blk_alloc ?_ _)); exact BK296.out))⟩; replace BK297 : Aside0 (w146.heap[gb297]? = some (.cells #[.bool t292, .int .i64 t293, .int .i64 t294, .int .i64 t295] 32 (0, 0))) := ⟨(by rw [hw]; exact (by (with_reducible repeat (first | refine blk_drewN ?_ _ | refine blk_drew ?_ | refine blk_alloc ?_ _)); refine blk_far ?_ NB297_313.out _; (with_reducible repeat (first | refine blk_drewN ?_ _ | refine blk_drew ?_ | refine blk_alloc ?_ _)); refine blk_far ?_ NB297_313.out _; (with_reducible repeat (first | refine blk_drewN ?_ _ | refine blk_drew ?_ | refine blk_alloc ?_ _)); refine blk_far ?_ NB297_313.out _; (with_reducible repeat (first | refine blk_drewN ?_ _ | refine blk_drew ?_ | refine blk_alloc ?_ _)); refine blk_far ?_ NB297_313.out _; (with_reducible repeat (first | refine blk_drewN ?_ _ | refine blk_drew ?_ | refine blk_alloc ?_ _)); exact BK297.out))⟩; replace BK312 : Aside0 (w146.heap[gb312]? = some (.cells #[.int .i64 t300, .int .i64 t301, .slice Ao137 t302.length co137, .slice Ao138 t305.length co138] 27 (0, 0))) := ⟨(by rw [hw]; exact (by (with_reducible repeat (first | refine blk_drewN ?_ _ | refine blk_drew ?_ | refine blk_alloc ?_ _)); refine blk_far ?_ NB312_313.out _; (with_reducible repeat (first | refine blk_drewN ?_ _ | refine blk_drew ?_ | refine blk_alloc ?_ _)); refine blk_far ?_ NB312_313.out _; (with_reducible repeat (first | refine blk_drewN ?_ _ | refine blk_drew ?_ | refine blk_alloc ?_ _)); refine blk_far ?_ NB312_313.out _; (with_reducible repeat (first | refine blk_drewN ?_ _ | refine blk_drew ?_ | refine blk_alloc ?_ _)); refine blk_far ?_ NB312_313.out _; (with_reducible repeat (first | refine blk_drewN ?_ _ | refine blk_drew ?_ | refine blk_alloc ?_ _)); exact BK312.out))⟩; replace BK313 : Aside0 (w146.heap[gb313]? = some (.cells #[.bool true, .int .i64 t309, .int .i64 t310, .int .i64 t311] 32 (0, 0))) := ⟨(by rw [hw]; exact (by (with_reducible repeat (first | refine blk_drewN ?_ _ | refine blk_drew ?_ | refine blk_alloc ?_ _)); refine blk_put (cs := #[.bool true, .int .i64 t309, .int .i64 t310, .int .i64 0]) ?_ 3 _ rfl; (with_reducible repeat (first | refine blk_drewN ?_ _ | refine blk_drew ?_ | refine blk_alloc ?_ _)); refine blk_put (cs := #[.bool true, .int .i64 t309, .int .i64 0, .int .i64 0]) ?_ 2 _ rfl; (with_reducible repeat (first | refine blk_drewN ?_ _ | refine blk_drew ?_ | refine blk_alloc ?_ _)); refine blk_put (cs := #[.bool true, .int .i64 0, .int .i64 0, .int .i64 0]) ?_ 1 _ rfl; (with_reducible repeat (first | refine blk_drewN ?_ _ | refine blk_drew ?_ | refine blk_alloc ?_ _)); refine blk_put (cs := #[.bool false, .int .i64 0, .int .i64 0, .int .i64 0]) ?_ 0 _ rfl; (with_reducible repeat (first | refine blk_drewN ?_ _ | refine blk_drew ?_ | refine blk_alloc ?_ _)); exact BK313.out))⟩; replace HB : Aside0 (Below w.heap.size w w146) := ⟨(by rw [hw]; exact (bl HB))⟩; clear hw; obtain ⟨hcz147_0, hcz147_1, hcz147_2, hcz147_3⟩ := ce4 BK313; obtain ⟨hfz147_0, hfz147_1, hfz147_2, hfz147_3⟩ := fr4 BK313))
                    go_meet
                    case rel => exact ⟨_, H', ⟨by have := HJ3.out; have := HJ66.out; first | omega | exact Nat.le_refl _⟩, ⟨by (with_reducible repeat (first | apply Kd.V_alloc | apply Kd.V_drewN | apply Kd.V_drew)); exact Kd.V_mono HO_297002.out (fun _ hk => ⟨hk.1, ⟨hk.2.1, ⟨hk.2.2.1, ⟨hk.2.2.2.1, hk.2.2.2.2.1⟩⟩⟩⟩)⟩, ⟨by (with_reducible repeat (first | apply Kd.V_alloc | apply Kd.V_drewN | apply Kd.V_drew)); exact Kd.V_mono HO_297003.out (fun _ hk => ⟨hk.1, ⟨hk.2.1, ⟨hk.2.2.1, ⟨hk.2.2.2.1, hk.2.2.2.2.1⟩⟩⟩⟩)⟩, ⟨bo BK277⟩, ⟨bo BK278⟩, ⟨bo BK279⟩, ⟨bo BK296⟩, ⟨bo BK297⟩, ⟨bl HB⟩⟩
                  · replace c114 := Bool.eq_false_iff.mpr c114
                    subst c114
                    rw [if_neg (show ¬ (false = true) by decide)] at H
                    exact absurd H (by simp)
                · rw [if_neg c112] at H
                  have c112b0 : decide (0 < t293) = false := decide_eq_false c112
                  clear c112
                  (first | rw [c112b0] | (simp only [i64_w, i32_w]; rw [c112b0]) | skip)
                  have H' := Aside0.mk H
                  clear H
                  go_wp2
                  go_meet
                  case rel => exact ⟨_, H', ⟨by have := HJ3.out; have := HJ66.out; first | omega | exact Nat.le_refl _⟩, ⟨by (with_reducible repeat (first | apply Kd.V_alloc | apply Kd.V_drewN | apply Kd.V_drew)); exact HO_297002.out⟩, ⟨by (with_reducible repeat (first | apply Kd.V_alloc | apply Kd.V_drewN | apply Kd.V_drew)); exact HO_297003.out⟩, ⟨bo BK277⟩, ⟨bo BK278⟩, ⟨bo BK279⟩, ⟨bo BK296⟩, ⟨bo BK297⟩, ⟨bl HB⟩⟩
              case rest =>
                as_aux_lemma =>
                clear HC106
                try clear c1
                try clear p2
                try clear c9
                try clear c10
                try clear c11
                try clear c12
                try clear c13
                try clear c14
                try clear c90
                try clear c92
                try clear c92b0
                try clear c92b1
                try clear c105
                try clear c107
                try clear c108
                try clear c109
                try clear c110
                try clear c112
                try clear c112b0
                try clear c114
                try clear c115
                try clear c116
                try clear c117
                try clear c118
                try clear c120
                try clear c121
                try clear c122
                try clear c124
                try clear c125
                try clear c130
                try clear c131
                try clear c132
                try clear c133
                try clear c134
                try clear c135
                try clear c140
                try clear c141
                try clear c142
                try clear c143
                try clear c144
                try clear hcz111_0
                try clear hcz111_1
                try clear hcz111_2
                try clear hcz111_3
                try clear hcz119_0
                try clear hcz119_1
                try clear hcz119_2
                try clear hcz119_3
                try clear hcz123_0
                try clear hcz123_1
                try clear hcz123_2
                try clear hcz123_3
                try clear hcz126_0
                try clear hcz126_1
                try clear hcz126_2
                try clear hcz126_3
                try clear hcz136_0
                try clear hcz136_1
                try clear hcz136_2
                try clear hcz136_3
                try clear hcz145_0
                try clear hcz145_1
                try clear hcz145_2
                try clear hcz145_3
                try clear hcz147_0
                try clear hcz147_1
                try clear hcz147_2
                try clear hcz147_3
                try clear hfz111_0
                try clear hfz111_1
                try clear hfz111_2
                try clear hfz111_3
                try clear hfz119_0
                try clear hfz119_1
                try clear hfz119_2
                try clear hfz119_3
                try clear hfz123_0
                try clear hfz123_1
                try clear hfz123_2
                try clear hfz123_3
                try clear hfz126_0
                try clear hfz126_1
                try clear hfz126_2
                try clear hfz126_3
                try clear hfz136_0
                try clear hfz136_1
                try clear hfz136_2
                try clear hfz136_3
                try clear hfz145_0
                try clear hfz145_1
                try clear hfz145_2
                try clear hfz145_3
                try clear hfz147_0
                try clear hfz147_1
                try clear hfz147_2
                try clear hfz147_3
                try clear p2
                obtain ⟨kq, HA, HJ105, HO_297002, HO_297003, BK277, BK278, BK279, BK296, BK297, HB⟩ := hcut
                cases kq with
                | zero => exact absurd HA.out (by simp [sandglasslaw11_FixedMay.j2])
                | succ kj105 =>
                  have H := HA.out
                  clear HA
                  simp only [sandglasslaw11_FixedMay.j2] at H
                  have HC148 := Aside0.mk H
                  clear H
                  go_upto_region 11 with (fail)
                  go_cut [140] (fun v140 wc => ∃ (kq : Nat) (x140_147 : Bool), v140 = .bool x140_147 ∧ Aside0 (sandglasslaw11_FixedMay.j3 kq a2_1 x140_147 a0_0 a0_1 a0_2 a0_3 t284 t285 t286 t289 t292 t293 t294 t295 = some r) ∧ Aside0 (kq ≤ kj105) ∧ Aside0 (Kd.V (Kd.int .i64) 3 wc w.heap.size (fun k_ => k_ ≠ gb277 ∧ k_ ≠ gb278 ∧ k_ ≠ gb279 ∧ k_ ≠ gb296 ∧ k_ ≠ gb297) (.slice Ao81 t286.length co81) t286) ∧ Aside0 (Kd.V k53 53 wc w.heap.size (fun k_ => k_ ≠ gb277 ∧ k_ ≠ gb278 ∧ k_ ≠ gb279 ∧ k_ ≠ gb296 ∧ k_ ≠ gb297) (.slice Ao82 t289.length co82) t289) ∧ Aside0 (wc.heap[gb277]? = some (.cells #[.int .i64 a0_0, .int .i64 a0_1, .int .i64 a0_2, .int .i64 a0_3] 23 (0, 0))) ∧ Aside0 (wc.heap[gb278]? = some (.cells #[.int .i64 a1_0, .int .i64 a1_1, (.slice A1_2 l1_2.length c1_2), (.slice A1_3 l1_3.length c1_3)] 27 (0, 0))) ∧ Aside0 (wc.heap[gb279]? = some (.cells #[.int .i64 a2_0, .int .i64 a2_1] 28 (0, 0))) ∧ Aside0 (wc.heap[gb296]? = some (.cells #[.int .i64 t284, .int .i64 t285, (.slice Ao81 t286.length co81), (.slice Ao82 t289.length co82)] 27 (0, 0))) ∧ Aside0 (wc.heap[gb297]? = some (.cells #[.bool t292, .int .i64 t293, .int .i64 t294, .int .i64 t295] 32 (0, 0))) ∧ Aside0 (Below w.heap.size w wc))
                  case first =>
                    as_aux_lemma =>
                    have H := HC148.out
                    clear HC148
                    replace H := Option.bind_eq_some_iff.mp H
                    obtain ⟨t314, A1490, H⟩ := H
                    have A149 := Aside0.mk A1490
                    clear A1490
                    by_cases c150 : t314 = 0
                    · rw [if_pos c150] at H
                      have c150b0 : (t314 == 0) = true := beq_iff_eq.mpr c150
                      have c150b1 : (t314 != 0) = false := bne_eq_false_iff_eq.mpr c150
                      clear c150
                      (first | rw [c150b0] | (simp only [i64_w, i32_w]; rw [c150b0]) | skip)
                      by_cases c151 : t295 > 0
                      · rw [if_pos c151] at H
                        have c151b0 : decide (0 < t295) = true := decide_eq_true c151
                        clear c151
                        replace H := Option.bind_eq_some_iff.mp H
                        obtain ⟨t315, A1520, H⟩ := H
                        have A152 := Aside0.mk A1520
                        clear A1520
                        by_cases c153 : t315 = 0
                        · rw [if_pos c153] at H
                          have c153b0 : (t315 == 0) = true := beq_iff_eq.mpr c153
                          have c153b1 : (t315 != 0) = false := bne_eq_false_iff_eq.mpr c153
                          clear c153
                          have H' := Aside0.mk H
                          clear H
                          try go_wp2
                          replace HO_297002 := Aside0.mk (Kd.V_drew HO_297002.out)
                          replace HO_297003 := Aside0.mk (Kd.V_drew HO_297003.out)
                          replace BK277 := Aside0.mk (blk_drew BK277.out)
                          replace BK278 := Aside0.mk (blk_drew BK278.out)
                          replace BK279 := Aside0.mk (blk_drew BK279.out)
                          replace BK296 := Aside0.mk (blk_drew BK296.out)
                          replace BK297 := Aside0.mk (blk_drew BK297.out)
                          replace HB := Aside0.mk (below_drew1 HB.out)
                          refine start_ (n := 37) (S := fun w' => w'.cell? ⟨gb277, 0, none⟩ = some (.int .i64 a0_0) ∧ w'.cell? ⟨gb277, 1, none⟩ = some (.int .i64 a0_1) ∧ w'.cell? ⟨gb277, 2, none⟩ = some (.int .i64 a0_2) ∧ w'.cell? ⟨gb277, 3, none⟩ = some (.int .i64 a0_3) ∧ w'.cell? ⟨gb296, 0, none⟩ = some (.int .i64 t284) ∧ w'.cell? ⟨gb296, 1, none⟩ = some (.int .i64 t285) ∧ w'.cell? ⟨gb296, 2, none⟩ = some (.slice Ao81 t286.length co81) ∧ w'.cell? ⟨gb296, 3, none⟩ = some (.slice Ao82 t289.length co82) ∧ w'.cell? ⟨gb297, 0, none⟩ = some (.bool t292) ∧ w'.cell? ⟨gb297, 1, none⟩ = some (.int .i64 t293) ∧ w'.cell? ⟨gb297, 2, none⟩ = some (.int .i64 t294) ∧ w'.cell? ⟨gb297, 3, none⟩ = some (.int .i64 t295)) (ds := []) #[false, false, false, false, false, false, false, false, false, false, false, false, false, false, false, false, false, false, false, false, false, false, false, false, false, false, false, false, false, false, false, false, false, false, false, false, false] (by kernel_rfl) rfl rfl ⟨(blk_cell BK277.out 0).trans rfl, (blk_cell BK277.out 1).trans rfl, (blk_cell BK277.out 2).trans rfl, (blk_cell BK277.out 3).trans rfl, (blk_cell BK296.out 0).trans rfl, (blk_cell BK296.out 1).trans rfl, (blk_cell BK296.out 2).trans rfl, (blk_cell BK296.out 3).trans rfl, (blk_cell BK297.out 0).trans rfl, (blk_cell BK297.out 1).trans rfl, (blk_cell BK297.out 2).trans rfl, (blk_cell BK297.out 3).trans rfl⟩ (fun hHeld => ?_); refine with_tabW sandglasslaw11_FixedMay.tab11 sandglasslaw11_FixedMay.bits11 (fun HT_ HW_ => ?_)
                          generalize wc.drew = w154 at HO_297002 HO_297003 BK277 BK278 BK279 BK296 BK297 HB hHeld ⊢
                          refine pureA 2 106 HT_ ?_
                          refine pureA 4 108 HT_ ?_
                          refine takeA 0 104 HT_ HW_ hHeld ?_
                          refine takeA 1 105 HT_ HW_ hHeld ?_
                          refine takeA 3 107 HT_ HW_ hHeld ?_
                          refine takeA 5 109 HT_ HW_ hHeld ?_
                          refine pureA 6 110 HT_ ?_
                          refine one_ (i := 7) (N := some 111) #[true, true, true, true, true, true, true, true, false, false, false, false, false, false, false, false, false, false, false, false, false, false, false, false, false, false, false, false, false, false, false, false, false, false, false, false, false] rfl rfl (one_of HT_.out (by kernel_rfl)) (by decide) (fun K hK => ?_)
                          refine goes_ Try.func15 (by kernel_rfl) rfl #[.agg #[.int .i64 a0_0, .int .i64 a0_1, .int .i64 a0_2, .int .i64 a0_3], .agg #[.int .i64 t284, .int .i64 t285, .slice Ao81 t286.length co81, .slice Ao82 t289.length co82], .int .i64 (wrap64 (t284 + t295))] (by rfl) rfl rfl (by (try simp only [List.map_toArray, List.map_cons, List.map_nil]); first | done | rfl | (simp only [List.length_drop, List.length_take]; rfl)) ?_
                          with_reducible refine (fixed_Total.calls kj105 a0_0 a0_1 a0_2 a0_3 t284 t285 _ _ t286 _ _ t289 (wrap64 (t284 + t295)) t314 _ ?side1 ?side2 ?side3 ?side4 A149.out).mono ?_
                          (case side1 => repeat (first | exact (Kd.V_reads' HO_297002.out).2.2 | (with_reducible refine Kd.C_alloc ?_ _) | (with_reducible refine Kd.C_drewN ?_ _) | (with_reducible refine Kd.C_drew ?_)))
                          (case side2 => exact (Kd.V_reads' HO_297002.out).2.1)
                          (case side3 => repeat (first | exact (Kd.V_reads' HO_297003.out).2.2 | (with_reducible refine Kd.C_alloc ?_ _) | (with_reducible refine Kd.C_drewN ?_ _) | (with_reducible refine Kd.C_drew ?_)))
                          (case side4 => exact (Kd.V_reads' HO_297003.out).2.1)
                          rintro e w155 ⟨rfl, hb⟩
                          refine ⟨_, rfl, ?_⟩
                          replace HO_297002 := vb HO_297002 hb
                          replace HO_297003 := vb HO_297003 hb
                          replace BK277 := Aside0.mk (blk_below (bo BK277) hb)
                          replace BK278 := Aside0.mk (blk_below (bo BK278) hb)
                          replace BK279 := Aside0.mk (blk_below (bo BK279) hb)
                          replace BK296 := Aside0.mk (blk_below (bo BK296) hb)
                          replace BK297 := Aside0.mk (blk_below (bo BK297) hb)
                          replace HB := Aside0.mk (below_step (bl HB) hb)
                          (try clear hb)
                          (try clear hb2)
                          (try clear hk)
                          (try clear hi)
                          refine hK.out _ _ ⟨(blk_cell BK277.out 0).trans rfl, (blk_cell BK277.out 1).trans rfl, (blk_cell BK277.out 2).trans rfl, (blk_cell BK277.out 3).trans rfl, (blk_cell BK296.out 0).trans rfl, (blk_cell BK296.out 1).trans rfl, (blk_cell BK296.out 2).trans rfl, (blk_cell BK296.out 3).trans rfl, (blk_cell BK297.out 0).trans rfl, (blk_cell BK297.out 1).trans rfl, (blk_cell BK297.out 2).trans rfl, (blk_cell BK297.out 3).trans rfl⟩ (fun hHeld => ?_)
                          clear hK K
                          refine norm_ (a' := ?_) ?_ ?_
                          rotate_left
                          · show Act.put _ (some 111) _ = _
                            simp only [Act.put, List.setIfInBounds_toArray, List.set_cons_zero, List.set_cons_succ, i64_w, i32_w]
                            rfl
                          refine pureA 8 112 HT_ ?_
                          refine pureA 9 113 HT_ ?_
                          refine pureA 10 114 HT_ ?_
                          refine takeA 11 115 HT_ HW_ hHeld ?_
                          refine pureA 12 116 HT_ ?_
                          refine pureA 13 117 HT_ ?_
                          refine pureA 16 120 HT_ ?_
                          refine pureA 18 122 HT_ ?_
                          refine takeA 14 118 HT_ HW_ hHeld ?_
                          refine takeA 15 119 HT_ HW_ hHeld ?_
                          refine takeA 17 121 HT_ HW_ hHeld ?_
                          refine takeA 19 123 HT_ HW_ hHeld ?_
                          refine pureA 20 124 HT_ ?_
                          refine pureA 21 125 HT_ ?_
                          refine one_ (i := 22) (N := some 126) #[true, true, true, true, true, true, true, true, true, true, true, true, true, true, true, true, true, true, true, true, true, true, true, false, false, false, false, false, false, false, false, false, false, false, false, false, false] rfl rfl (one_of HT_.out (by kernel_rfl)) (by decide) (fun K hK => ?_)
                          refine goes_ Try.func15 (by kernel_rfl) rfl #[.agg #[.int .i64 a0_0, .int .i64 a0_1, .int .i64 a0_2, .int .i64 a0_3], .agg #[.int .i64 t284, .int .i64 t285, .slice Ao81 t286.length co81, .slice Ao82 t289.length co82], .int .i64 (wrap64 ((wrap64 (t284 + t295)) - 1))] (by rfl) rfl rfl (by (try simp only [List.map_toArray, List.map_cons, List.map_nil]); first | done | rfl | (simp only [List.length_drop, List.length_take]; rfl)) ?_
                          with_reducible refine (fixed_Total.calls kj105 a0_0 a0_1 a0_2 a0_3 t284 t285 _ _ t286 _ _ t289 (wrap64 ((wrap64 (t284 + t295)) - 1)) t315 _ ?side1 ?side2 ?side3 ?side4 A152.out).mono ?_
                          (case side1 => repeat (first | exact (Kd.V_reads' HO_297002.out).2.2 | (with_reducible refine Kd.C_alloc ?_ _) | (with_reducible refine Kd.C_drewN ?_ _) | (with_reducible refine Kd.C_drew ?_)))
                          (case side2 => exact (Kd.V_reads' HO_297002.out).2.1)
                          (case side3 => repeat (first | exact (Kd.V_reads' HO_297003.out).2.2 | (with_reducible refine Kd.C_alloc ?_ _) | (with_reducible refine Kd.C_drewN ?_ _) | (with_reducible refine Kd.C_drew ?_)))
                          (case side4 => exact (Kd.V_reads' HO_297003.out).2.1)
                          rintro e w156 ⟨rfl, hb⟩
                          refine ⟨_, rfl, ?_⟩
                          replace HO_297002 := vb HO_297002 hb
                          replace HO_297003 := vb HO_297003 hb
                          replace BK277 := Aside0.mk (blk_below (bo BK277) hb)
                          replace BK278 := Aside0.mk (blk_below (bo BK278) hb)
                          replace BK279 := Aside0.mk (blk_below (bo BK279) hb)
                          replace BK296 := Aside0.mk (blk_below (bo BK296) hb)
                          replace BK297 := Aside0.mk (blk_below (bo BK297) hb)
                          replace HB := Aside0.mk (below_step (bl HB) hb)
                          (try clear hb)
                          (try clear hb2)
                          (try clear hk)
                          (try clear hi)
                          refine hK.out _ _ ⟨(blk_cell BK277.out 0).trans rfl, (blk_cell BK277.out 1).trans rfl, (blk_cell BK277.out 2).trans rfl, (blk_cell BK277.out 3).trans rfl, (blk_cell BK296.out 0).trans rfl, (blk_cell BK296.out 1).trans rfl, (blk_cell BK296.out 2).trans rfl, (blk_cell BK296.out 3).trans rfl, (blk_cell BK297.out 0).trans rfl, (blk_cell BK297.out 1).trans rfl, (blk_cell BK297.out 2).trans rfl, (blk_cell BK297.out 3).trans rfl⟩ (fun hHeld => ?_)
                          clear hK K
                          refine norm_ (a' := ?_) ?_ ?_
                          rotate_left
                          · show Act.put _ (some 126) _ = _
                            simp only [Act.put, List.setIfInBounds_toArray, List.set_cons_zero, List.set_cons_succ, i64_w, i32_w]
                            rfl
                          refine pureA 23 127 HT_ ?_
                          refine pureA 24 128 HT_ ?_
                          refine pureA 25 129 HT_ ?_
                          refine pureA 26 130 HT_ ?_
                          refine pure_ (i := 27) (N := some 131) (v := undef) (a' := ?_) #[true, true, true, true, true, true, true, true, true, true, true, true, true, true, true, true, true, true, true, true, true, true, true, true, true, true, true, true, false, false, false, false, false, false, false, false, false] rfl rfl (any_of HT_.out (by kernel_rfl)) (fun _ _ _ h => h) (Or.inr ⟨by rfl, rfl⟩) ?_ ?_
                          rotate_left
                          · simp only [Act.put, List.setIfInBounds_toArray, List.set_cons_zero, List.set_cons_succ, i64_w, i32_w]
                            rfl
                          refine pure_ (i := 28) (N := some 132) (v := undef) (a' := ?_) #[true, true, true, true, true, true, true, true, true, true, true, true, true, true, true, true, true, true, true, true, true, true, true, true, true, true, true, true, true, false, false, false, false, false, false, false, false] rfl rfl (any_of HT_.out (by kernel_rfl)) (fun _ _ _ h => h) (Or.inr ⟨by rfl, rfl⟩) ?_ ?_
                          rotate_left
                          · simp only [Act.put, List.setIfInBounds_toArray, List.set_cons_zero, List.set_cons_succ, i64_w, i32_w]
                            rfl
                          refine pure_ (i := 29) (N := some 133) (v := undef) (a' := ?_) #[true, true, true, true, true, true, true, true, true, true, true, true, true, true, true, true, true, true, true, true, true, true, true, true, true, true, true, true, true, true, false, false, false, false, false, false, false] rfl rfl (any_of HT_.out (by kernel_rfl)) (fun _ _ _ h => h) (Or.inr ⟨by rfl, rfl⟩) ?_ ?_
                          rotate_left
                          · simp only [Act.put, List.setIfInBounds_toArray, List.set_cons_zero, List.set_cons_succ, i64_w, i32_w]
                            rfl
                          refine pure_ (i := 30) (N := some 134) (v := undef) (a' := ?_) #[true, true, true, true, true, true, true, true, true, true, true, true, true, true, true, true, true, true, true, true, true, true, true, true, true, true, true, true, true, true, true, false, false, false, false, false, false] rfl rfl (any_of HT_.out (by kernel_rfl)) (fun _ _ _ h => h) (Or.inr ⟨by rfl, rfl⟩) ?_ ?_
                          rotate_left
                          · simp only [Act.put, List.setIfInBounds_toArray, List.set_cons_zero, List.set_cons_succ, i64_w, i32_w]
                            rfl
                          refine pure_ (i := 31) (N := some 135) (v := undef) (a' := ?_) #[true, true, true, true, true, true, true, true, true, true, true, true, true, true, true, true, true, true, true, true, true, true, true, true, true, true, true, true, true, true, true, true, false, false, false, false, false] rfl rfl (any_of HT_.out (by kernel_rfl)) (fun _ _ _ h => h) (Or.inr ⟨by rfl, rfl⟩) ?_ ?_
                          rotate_left
                          · simp only [Act.put, List.setIfInBounds_toArray, List.set_cons_zero, List.set_cons_succ, i64_w, i32_w]
                            rfl
                          refine pure_ (i := 32) (N := some 136) (v := undef) (a' := ?_) #[true, true, true, true, true, true, true, true, true, true, true, true, true, true, true, true, true, true, true, true, true, true, true, true, true, true, true, true, true, true, true, true, true, false, false, false, false] rfl rfl (any_of HT_.out (by kernel_rfl)) (fun _ _ _ h => h) (Or.inr ⟨by rfl, rfl⟩) ?_ ?_
                          rotate_left
                          · simp only [Act.put, List.setIfInBounds_toArray, List.set_cons_zero, List.set_cons_succ, i64_w, i32_w]
                            rfl
                          refine pure_ (i := 33) (N := some 137) (v := undef) (a' := ?_) #[true, true, true, true, true, true, true, true, true, true, true, true, true, true, true, true, true, true, true, true, true, true, true, true, true, true, true, true, true, true, true, true, true, true, false, false, false] rfl rfl (any_of HT_.out (by kernel_rfl)) (fun _ _ _ h => h) (Or.inr ⟨by rfl, rfl⟩) ?_ ?_
                          rotate_left
                          · simp only [Act.put, List.setIfInBounds_toArray, List.set_cons_zero, List.set_cons_succ, i64_w, i32_w]
                            rfl
                          refine pure_ (i := 34) (N := some 138) (v := undef) (a' := ?_) #[true, true, true, true, true, true, true, true, true, true, true, true, true, true, true, true, true, true, true, true, true, true, true, true, true, true, true, true, true, true, true, true, true, true, true, false, false] rfl rfl (any_of HT_.out (by kernel_rfl)) (fun _ _ _ h => h) (Or.inr ⟨by rfl, rfl⟩) ?_ ?_
                          rotate_left
                          · simp only [Act.put, List.setIfInBounds_toArray, List.set_cons_zero, List.set_cons_succ, i64_w, i32_w]
                            rfl
                          refine pure_ (i := 35) (N := some 139) (v := undef) (a' := ?_) #[true, true, true, true, true, true, true, true, true, true, true, true, true, true, true, true, true, true, true, true, true, true, true, true, true, true, true, true, true, true, true, true, true, true, true, true, false] rfl rfl (any_of HT_.out (by kernel_rfl)) (fun _ _ _ h => h) (Or.inr ⟨by rfl, rfl⟩) ?_ ?_
                          rotate_left
                          · simp only [Act.put, List.setIfInBounds_toArray, List.set_cons_zero, List.set_cons_succ, i64_w, i32_w]
                            rfl
                          refine pureA 36 140 HT_ ?_
                          refine done_ (done_of HT_.out (by kernel_rfl)) ?_
                          try go_wp2
                          go_meet
                          case rel => exact ⟨_, (true), (by first | (with_reducible rfl) | rfl | (simp; done) | (simp [*]; done)), H', ⟨by have := HJ3.out; have := HJ66.out; have := HJ105.out; first | omega | exact Nat.le_refl _⟩, ⟨by (with_reducible repeat (first | apply Kd.V_alloc | apply Kd.V_drewN | apply Kd.V_drew)); exact HO_297002.out⟩, ⟨by (with_reducible repeat (first | apply Kd.V_alloc | apply Kd.V_drewN | apply Kd.V_drew)); exact HO_297003.out⟩, ⟨bo BK277⟩, ⟨bo BK278⟩, ⟨bo BK279⟩, ⟨bo BK296⟩, ⟨bo BK297⟩, ⟨bl HB⟩⟩
                        · rw [if_neg c153] at H
                          have c153b0 : (t315 == 0) = false := beq_eq_false_iff_ne.mpr c153
                          have c153b1 : (t315 != 0) = true := bne_iff_ne.mpr c153
                          replace H := Option.bind_eq_some_iff.mp H
                          obtain ⟨t316, A1570, H⟩ := H
                          have A157 := Aside0.mk A1570
                          clear A1570
                          have H' := Aside0.mk H
                          clear H
                          try go_wp2
                          replace HO_297002 := Aside0.mk (Kd.V_drew HO_297002.out)
                          replace HO_297003 := Aside0.mk (Kd.V_drew HO_297003.out)
                          replace BK277 := Aside0.mk (blk_drew BK277.out)
                          replace BK278 := Aside0.mk (blk_drew BK278.out)
                          replace BK279 := Aside0.mk (blk_drew BK279.out)
                          replace BK296 := Aside0.mk (blk_drew BK296.out)
                          replace BK297 := Aside0.mk (blk_drew BK297.out)
                          replace HB := Aside0.mk (below_drew1 HB.out)
                          refine start_ (n := 37) (S := fun w' => w'.cell? ⟨gb277, 0, none⟩ = some (.int .i64 a0_0) ∧ w'.cell? ⟨gb277, 1, none⟩ = some (.int .i64 a0_1) ∧ w'.cell? ⟨gb277, 2, none⟩ = some (.int .i64 a0_2) ∧ w'.cell? ⟨gb277, 3, none⟩ = some (.int .i64 a0_3) ∧ w'.cell? ⟨gb296, 0, none⟩ = some (.int .i64 t284) ∧ w'.cell? ⟨gb296, 1, none⟩ = some (.int .i64 t285) ∧ w'.cell? ⟨gb296, 2, none⟩ = some (.slice Ao81 t286.length co81) ∧ w'.cell? ⟨gb296, 3, none⟩ = some (.slice Ao82 t289.length co82) ∧ w'.cell? ⟨gb297, 0, none⟩ = some (.bool t292) ∧ w'.cell? ⟨gb297, 1, none⟩ = some (.int .i64 t293) ∧ w'.cell? ⟨gb297, 2, none⟩ = some (.int .i64 t294) ∧ w'.cell? ⟨gb297, 3, none⟩ = some (.int .i64 t295)) (ds := []) #[false, false, false, false, false, false, false, false, false, false, false, false, false, false, false, false, false, false, false, false, false, false, false, false, false, false, false, false, false, false, false, false, false, false, false, false, false] (by kernel_rfl) rfl rfl ⟨(blk_cell BK277.out 0).trans rfl, (blk_cell BK277.out 1).trans rfl, (blk_cell BK277.out 2).trans rfl, (blk_cell BK277.out 3).trans rfl, (blk_cell BK296.out 0).trans rfl, (blk_cell BK296.out 1).trans rfl, (blk_cell BK296.out 2).trans rfl, (blk_cell BK296.out 3).trans rfl, (blk_cell BK297.out 0).trans rfl, (blk_cell BK297.out 1).trans rfl, (blk_cell BK297.out 2).trans rfl, (blk_cell BK297.out 3).trans rfl⟩ (fun hHeld => ?_); refine with_tabW sandglasslaw11_FixedMay.tab11 sandglasslaw11_FixedMay.bits11 (fun HT_ HW_ => ?_)
                          generalize wc.drew = w158 at HO_297002 HO_297003 BK277 BK278 BK279 BK296 BK297 HB hHeld ⊢
                          refine pureA 2 106 HT_ ?_
                          refine pureA 4 108 HT_ ?_
                          refine takeA 0 104 HT_ HW_ hHeld ?_
                          refine takeA 1 105 HT_ HW_ hHeld ?_
                          refine takeA 3 107 HT_ HW_ hHeld ?_
                          refine takeA 5 109 HT_ HW_ hHeld ?_
                          refine pureA 6 110 HT_ ?_
                          refine one_ (i := 7) (N := some 111) #[true, true, true, true, true, true, true, true, false, false, false, false, false, false, false, false, false, false, false, false, false, false, false, false, false, false, false, false, false, false, false, false, false, false, false, false, false] rfl rfl (one_of HT_.out (by kernel_rfl)) (by decide) (fun K hK => ?_)
                          refine goes_ Try.func15 (by kernel_rfl) rfl #[.agg #[.int .i64 a0_0, .int .i64 a0_1, .int .i64 a0_2, .int .i64 a0_3], .agg #[.int .i64 t284, .int .i64 t285, .slice Ao81 t286.length co81, .slice Ao82 t289.length co82], .int .i64 (wrap64 (t284 + t295))] (by rfl) rfl rfl (by (try simp only [List.map_toArray, List.map_cons, List.map_nil]); first | done | rfl | (simp only [List.length_drop, List.length_take]; rfl)) ?_
                          with_reducible refine (fixed_Total.calls kj105 a0_0 a0_1 a0_2 a0_3 t284 t285 _ _ t286 _ _ t289 (wrap64 (t284 + t295)) t314 _ ?side1 ?side2 ?side3 ?side4 A149.out).mono ?_
                          (case side1 => repeat (first | exact (Kd.V_reads' HO_297002.out).2.2 | (with_reducible refine Kd.C_alloc ?_ _) | (with_reducible refine Kd.C_drewN ?_ _) | (with_reducible refine Kd.C_drew ?_)))
                          (case side2 => exact (Kd.V_reads' HO_297002.out).2.1)
                          (case side3 => repeat (first | exact (Kd.V_reads' HO_297003.out).2.2 | (with_reducible refine Kd.C_alloc ?_ _) | (with_reducible refine Kd.C_drewN ?_ _) | (with_reducible refine Kd.C_drew ?_)))
                          (case side4 => exact (Kd.V_reads' HO_297003.out).2.1)
                          rintro e w159 ⟨rfl, hb⟩
                          refine ⟨_, rfl, ?_⟩
                          replace HO_297002 := vb HO_297002 hb
                          replace HO_297003 := vb HO_297003 hb
                          replace BK277 := Aside0.mk (blk_below (bo BK277) hb)
                          replace BK278 := Aside0.mk (blk_below (bo BK278) hb)
                          replace BK279 := Aside0.mk (blk_below (bo BK279) hb)
                          replace BK296 := Aside0.mk (blk_below (bo BK296) hb)
                          replace BK297 := Aside0.mk (blk_below (bo BK297) hb)
                          replace HB := Aside0.mk (below_step (bl HB) hb)
                          (try clear hb)
                          (try clear hb2)
                          (try clear hk)
                          (try clear hi)
                          refine hK.out _ _ ⟨(blk_cell BK277.out 0).trans rfl, (blk_cell BK277.out 1).trans rfl, (blk_cell BK277.out 2).trans rfl, (blk_cell BK277.out 3).trans rfl, (blk_cell BK296.out 0).trans rfl, (blk_cell BK296.out 1).trans rfl, (blk_cell BK296.out 2).trans rfl, (blk_cell BK296.out 3).trans rfl, (blk_cell BK297.out 0).trans rfl, (blk_cell BK297.out 1).trans rfl, (blk_cell BK297.out 2).trans rfl, (blk_cell BK297.out 3).trans rfl⟩ (fun hHeld => ?_)
                          clear hK K
                          refine norm_ (a' := ?_) ?_ ?_
                          rotate_left
                          · show Act.put _ (some 111) _ = _
                            simp only [Act.put, List.setIfInBounds_toArray, List.set_cons_zero, List.set_cons_succ, i64_w, i32_w]
                            rfl
                          refine pureA 8 112 HT_ ?_
                          refine pureA 9 113 HT_ ?_
                          refine pureA 10 114 HT_ ?_
                          refine takeA 11 115 HT_ HW_ hHeld ?_
                          refine pureA 12 116 HT_ ?_
                          refine pureA 13 117 HT_ ?_
                          refine pureA 16 120 HT_ ?_
                          refine pureA 18 122 HT_ ?_
                          refine takeA 14 118 HT_ HW_ hHeld ?_
                          refine takeA 15 119 HT_ HW_ hHeld ?_
                          refine takeA 17 121 HT_ HW_ hHeld ?_
                          refine takeA 19 123 HT_ HW_ hHeld ?_
                          refine pureA 20 124 HT_ ?_
                          refine pureA 21 125 HT_ ?_
                          refine one_ (i := 22) (N := some 126) #[true, true, true, true, true, true, true, true, true, true, true, true, true, true, true, true, true, true, true, true, true, true, true, false, false, false, false, false, false, false, false, false, false, false, false, false, false] rfl rfl (one_of HT_.out (by kernel_rfl)) (by decide) (fun K hK => ?_)
                          refine goes_ Try.func15 (by kernel_rfl) rfl #[.agg #[.int .i64 a0_0, .int .i64 a0_1, .int .i64 a0_2, .int .i64 a0_3], .agg #[.int .i64 t284, .int .i64 t285, .slice Ao81 t286.length co81, .slice Ao82 t289.length co82], .int .i64 (wrap64 ((wrap64 (t284 + t295)) - 1))] (by rfl) rfl rfl (by (try simp only [List.map_toArray, List.map_cons, List.map_nil]); first | done | rfl | (simp only [List.length_drop, List.length_take]; rfl)) ?_
                          with_reducible refine (fixed_Total.calls kj105 a0_0 a0_1 a0_2 a0_3 t284 t285 _ _ t286 _ _ t289 (wrap64 ((wrap64 (t284 + t295)) - 1)) t315 _ ?side1 ?side2 ?side3 ?side4 A152.out).mono ?_
                          (case side1 => repeat (first | exact (Kd.V_reads' HO_297002.out).2.2 | (with_reducible refine Kd.C_alloc ?_ _) | (with_reducible refine Kd.C_drewN ?_ _) | (with_reducible refine Kd.C_drew ?_)))
                          (case side2 => exact (Kd.V_reads' HO_297002.out).2.1)
                          (case side3 => repeat (first | exact (Kd.V_reads' HO_297003.out).2.2 | (with_reducible refine Kd.C_alloc ?_ _) | (with_reducible refine Kd.C_drewN ?_ _) | (with_reducible refine Kd.C_drew ?_)))
                          (case side4 => exact (Kd.V_reads' HO_297003.out).2.1)
                          rintro e w160 ⟨rfl, hb⟩
                          refine ⟨_, rfl, ?_⟩
                          replace HO_297002 := vb HO_297002 hb
                          replace HO_297003 := vb HO_297003 hb
                          replace BK277 := Aside0.mk (blk_below (bo BK277) hb)
                          replace BK278 := Aside0.mk (blk_below (bo BK278) hb)
                          replace BK279 := Aside0.mk (blk_below (bo BK279) hb)
                          replace BK296 := Aside0.mk (blk_below (bo BK296) hb)
                          replace BK297 := Aside0.mk (blk_below (bo BK297) hb)
                          replace HB := Aside0.mk (below_step (bl HB) hb)
                          (try clear hb)
                          (try clear hb2)
                          (try clear hk)
                          (try clear hi)
                          refine hK.out _ _ ⟨(blk_cell BK277.out 0).trans rfl, (blk_cell BK277.out 1).trans rfl, (blk_cell BK277.out 2).trans rfl, (blk_cell BK277.out 3).trans rfl, (blk_cell BK296.out 0).trans rfl, (blk_cell BK296.out 1).trans rfl, (blk_cell BK296.out 2).trans rfl, (blk_cell BK296.out 3).trans rfl, (blk_cell BK297.out 0).trans rfl, (blk_cell BK297.out 1).trans rfl, (blk_cell BK297.out 2).trans rfl, (blk_cell BK297.out 3).trans rfl⟩ (fun hHeld => ?_)
                          clear hK K
                          refine norm_ (a' := ?_) ?_ ?_
                          rotate_left
                          · show Act.put _ (some 126) _ = _
                            simp only [Act.put, List.setIfInBounds_toArray, List.set_cons_zero, List.set_cons_succ, i64_w, i32_w]
                            rfl
                          refine pureA 23 127 HT_ ?_
                          refine pureA 24 128 HT_ ?_
                          refine pureA 25 129 HT_ ?_
                          refine pureA 26 130 HT_ ?_
                          refine pureA 30 134 HT_ ?_
                          refine pureA 32 136 HT_ ?_
                          refine takeA 27 131 HT_ HW_ hHeld ?_
                          refine takeA 28 132 HT_ HW_ hHeld ?_
                          refine takeA 31 135 HT_ HW_ hHeld ?_
                          refine takeA 33 137 HT_ HW_ hHeld ?_
                          refine pureA 34 138 HT_ ?_
                          refine one_ (i := 29) (N := some 133) #[true, true, true, true, true, true, true, true, true, true, true, true, true, true, true, true, true, true, true, true, true, true, true, true, true, true, true, true, true, true, true, true, true, true, true, false, false] rfl rfl (one_of HT_.out (by kernel_rfl)) (by decide) (fun K hK => ?_)
                          refine goes_ Try.func17 (by kernel_rfl) rfl #[.agg #[.int .i64 a0_0, .int .i64 a0_1, .int .i64 a0_2, .int .i64 a0_3], .agg #[.int .i64 t284, .int .i64 t285, .slice Ao81 t286.length co81, .slice Ao82 t289.length co82]] (by rfl) rfl rfl (by (try simp only [List.map_toArray, List.map_cons, List.map_nil]); first | done | rfl | (simp only [List.length_drop, List.length_take]; rfl)) ?_
                          with_reducible refine (fixed_Ends.calls a0_0 a0_1 a0_2 a0_3 t284 t285 _ _ t286 _ _ t289 t316 _ ?side1 ?side2 ?side3 ?side4 A157.out).mono ?_
                          (case side1 => repeat (first | exact (Kd.V_reads' HO_297002.out).2.2 | (with_reducible refine Kd.C_alloc ?_ _) | (with_reducible refine Kd.C_drewN ?_ _) | (with_reducible refine Kd.C_drew ?_)))
                          (case side2 => exact (Kd.V_reads' HO_297002.out).2.1)
                          (case side3 => repeat (first | exact (Kd.V_reads' HO_297003.out).2.2 | (with_reducible refine Kd.C_alloc ?_ _) | (with_reducible refine Kd.C_drewN ?_ _) | (with_reducible refine Kd.C_drew ?_)))
                          (case side4 => exact (Kd.V_reads' HO_297003.out).2.1)
                          rintro e w161 ⟨rfl, hb⟩
                          refine ⟨_, rfl, ?_⟩
                          replace HO_297002 := vb HO_297002 hb
                          replace HO_297003 := vb HO_297003 hb
                          replace BK277 := Aside0.mk (blk_below (bo BK277) hb)
                          replace BK278 := Aside0.mk (blk_below (bo BK278) hb)
                          replace BK279 := Aside0.mk (blk_below (bo BK279) hb)
                          replace BK296 := Aside0.mk (blk_below (bo BK296) hb)
                          replace BK297 := Aside0.mk (blk_below (bo BK297) hb)
                          replace HB := Aside0.mk (below_step (bl HB) hb)
                          (try clear hb)
                          (try clear hb2)
                          (try clear hk)
                          (try clear hi)
                          refine hK.out _ _ ⟨(blk_cell BK277.out 0).trans rfl, (blk_cell BK277.out 1).trans rfl, (blk_cell BK277.out 2).trans rfl, (blk_cell BK277.out 3).trans rfl, (blk_cell BK296.out 0).trans rfl, (blk_cell BK296.out 1).trans rfl, (blk_cell BK296.out 2).trans rfl, (blk_cell BK296.out 3).trans rfl, (blk_cell BK297.out 0).trans rfl, (blk_cell BK297.out 1).trans rfl, (blk_cell BK297.out 2).trans rfl, (blk_cell BK297.out 3).trans rfl⟩ (fun hHeld => ?_)
                          clear hK K
                          refine norm_ (a' := ?_) ?_ ?_
                          rotate_left
                          · show Act.put _ (some 133) _ = _
                            simp only [Act.put, List.setIfInBounds_toArray, List.set_cons_zero, List.set_cons_succ, i64_w, i32_w]
                            rfl
                          refine pureA 35 139 HT_ ?_
                          refine pureA 36 140 HT_ ?_
                          refine done_ (done_of HT_.out (by kernel_rfl)) ?_
                          try go_wp2
                          go_meet
                          case rel => exact ⟨_, ((t316 != (wrap64 (t284 + t295)))), (by first | (with_reducible rfl) | rfl | (simp; done) | (simp [*]; done)), H', ⟨by have := HJ3.out; have := HJ66.out; have := HJ105.out; first | omega | exact Nat.le_refl _⟩, ⟨by (with_reducible repeat (first | apply Kd.V_alloc | apply Kd.V_drewN | apply Kd.V_drew)); exact HO_297002.out⟩, ⟨by (with_reducible repeat (first | apply Kd.V_alloc | apply Kd.V_drewN | apply Kd.V_drew)); exact HO_297003.out⟩, ⟨bo BK277⟩, ⟨bo BK278⟩, ⟨bo BK279⟩, ⟨bo BK296⟩, ⟨bo BK297⟩, ⟨bl HB⟩⟩
                      · rw [if_neg c151] at H
                        have c151b0 : decide (0 < t295) = false := decide_eq_false c151
                        clear c151
                        replace H := Option.bind_eq_some_iff.mp H
                        obtain ⟨t317, A1620, H⟩ := H
                        have A162 := Aside0.mk A1620
                        clear A1620
                        have H' := Aside0.mk H
                        clear H
                        try go_wp2
                        replace HO_297002 := Aside0.mk (Kd.V_drew HO_297002.out)
                        replace HO_297003 := Aside0.mk (Kd.V_drew HO_297003.out)
                        replace BK277 := Aside0.mk (blk_drew BK277.out)
                        replace BK278 := Aside0.mk (blk_drew BK278.out)
                        replace BK279 := Aside0.mk (blk_drew BK279.out)
                        replace BK296 := Aside0.mk (blk_drew BK296.out)
                        replace BK297 := Aside0.mk (blk_drew BK297.out)
                        replace HB := Aside0.mk (below_drew1 HB.out)
                        refine start_ (n := 37) (S := fun w' => w'.cell? ⟨gb277, 0, none⟩ = some (.int .i64 a0_0) ∧ w'.cell? ⟨gb277, 1, none⟩ = some (.int .i64 a0_1) ∧ w'.cell? ⟨gb277, 2, none⟩ = some (.int .i64 a0_2) ∧ w'.cell? ⟨gb277, 3, none⟩ = some (.int .i64 a0_3) ∧ w'.cell? ⟨gb296, 0, none⟩ = some (.int .i64 t284) ∧ w'.cell? ⟨gb296, 1, none⟩ = some (.int .i64 t285) ∧ w'.cell? ⟨gb296, 2, none⟩ = some (.slice Ao81 t286.length co81) ∧ w'.cell? ⟨gb296, 3, none⟩ = some (.slice Ao82 t289.length co82) ∧ w'.cell? ⟨gb297, 0, none⟩ = some (.bool t292) ∧ w'.cell? ⟨gb297, 1, none⟩ = some (.int .i64 t293) ∧ w'.cell? ⟨gb297, 2, none⟩ = some (.int .i64 t294) ∧ w'.cell? ⟨gb297, 3, none⟩ = some (.int .i64 t295)) (ds := []) #[false, false, false, false, false, false, false, false, false, false, false, false, false, false, false, false, false, false, false, false, false, false, false, false, false, false, false, false, false, false, false, false, false, false, false, false, false] (by kernel_rfl) rfl rfl ⟨(blk_cell BK277.out 0).trans rfl, (blk_cell BK277.out 1).trans rfl, (blk_cell BK277.out 2).trans rfl, (blk_cell BK277.out 3).trans rfl, (blk_cell BK296.out 0).trans rfl, (blk_cell BK296.out 1).trans rfl, (blk_cell BK296.out 2).trans rfl, (blk_cell BK296.out 3).trans rfl, (blk_cell BK297.out 0).trans rfl, (blk_cell BK297.out 1).trans rfl, (blk_cell BK297.out 2).trans rfl, (blk_cell BK297.out 3).trans rfl⟩ (fun hHeld => ?_); refine with_tabW sandglasslaw11_FixedMay.tab11 sandglasslaw11_FixedMay.bits11 (fun HT_ HW_ => ?_)
                        generalize wc.drew = w163 at HO_297002 HO_297003 BK277 BK278 BK279 BK296 BK297 HB hHeld ⊢
                        refine pureA 2 106 HT_ ?_
                        refine pureA 4 108 HT_ ?_
                        refine takeA 0 104 HT_ HW_ hHeld ?_
                        refine takeA 1 105 HT_ HW_ hHeld ?_
                        refine takeA 3 107 HT_ HW_ hHeld ?_
                        refine takeA 5 109 HT_ HW_ hHeld ?_
                        refine pureA 6 110 HT_ ?_
                        refine one_ (i := 7) (N := some 111) #[true, true, true, true, true, true, true, true, false, false, false, false, false, false, false, false, false, false, false, false, false, false, false, false, false, false, false, false, false, false, false, false, false, false, false, false, false] rfl rfl (one_of HT_.out (by kernel_rfl)) (by decide) (fun K hK => ?_)
                        refine goes_ Try.func15 (by kernel_rfl) rfl #[.agg #[.int .i64 a0_0, .int .i64 a0_1, .int .i64 a0_2, .int .i64 a0_3], .agg #[.int .i64 t284, .int .i64 t285, .slice Ao81 t286.length co81, .slice Ao82 t289.length co82], .int .i64 (wrap64 (t284 + t295))] (by rfl) rfl rfl (by (try simp only [List.map_toArray, List.map_cons, List.map_nil]); first | done | rfl | (simp only [List.length_drop, List.length_take]; rfl)) ?_
                        with_reducible refine (fixed_Total.calls kj105 a0_0 a0_1 a0_2 a0_3 t284 t285 _ _ t286 _ _ t289 (wrap64 (t284 + t295)) t314 _ ?side1 ?side2 ?side3 ?side4 A149.out).mono ?_
                        (case side1 => repeat (first | exact (Kd.V_reads' HO_297002.out).2.2 | (with_reducible refine Kd.C_alloc ?_ _) | (with_reducible refine Kd.C_drewN ?_ _) | (with_reducible refine Kd.C_drew ?_)))
                        (case side2 => exact (Kd.V_reads' HO_297002.out).2.1)
                        (case side3 => repeat (first | exact (Kd.V_reads' HO_297003.out).2.2 | (with_reducible refine Kd.C_alloc ?_ _) | (with_reducible refine Kd.C_drewN ?_ _) | (with_reducible refine Kd.C_drew ?_)))
                        (case side4 => exact (Kd.V_reads' HO_297003.out).2.1)
                        rintro e w164 ⟨rfl, hb⟩
                        refine ⟨_, rfl, ?_⟩
                        replace HO_297002 := vb HO_297002 hb
                        replace HO_297003 := vb HO_297003 hb
                        replace BK277 := Aside0.mk (blk_below (bo BK277) hb)
                        replace BK278 := Aside0.mk (blk_below (bo BK278) hb)
                        replace BK279 := Aside0.mk (blk_below (bo BK279) hb)
                        replace BK296 := Aside0.mk (blk_below (bo BK296) hb)
                        replace BK297 := Aside0.mk (blk_below (bo BK297) hb)
                        replace HB := Aside0.mk (below_step (bl HB) hb)
                        (try clear hb)
                        (try clear hb2)
                        (try clear hk)
                        (try clear hi)
                        refine hK.out _ _ ⟨(blk_cell BK277.out 0).trans rfl, (blk_cell BK277.out 1).trans rfl, (blk_cell BK277.out 2).trans rfl, (blk_cell BK277.out 3).trans rfl, (blk_cell BK296.out 0).trans rfl, (blk_cell BK296.out 1).trans rfl, (blk_cell BK296.out 2).trans rfl, (blk_cell BK296.out 3).trans rfl, (blk_cell BK297.out 0).trans rfl, (blk_cell BK297.out 1).trans rfl, (blk_cell BK297.out 2).trans rfl, (blk_cell BK297.out 3).trans rfl⟩ (fun hHeld => ?_)
                        clear hK K
                        refine norm_ (a' := ?_) ?_ ?_
                        rotate_left
                        · show Act.put _ (some 111) _ = _
                          simp only [Act.put, List.setIfInBounds_toArray, List.set_cons_zero, List.set_cons_succ, i64_w, i32_w]
                          rfl
                        refine pureA 8 112 HT_ ?_
                        refine pureA 9 113 HT_ ?_
                        refine pureA 10 114 HT_ ?_
                        refine takeA 11 115 HT_ HW_ hHeld ?_
                        refine pureA 12 116 HT_ ?_
                        refine pureA 13 117 HT_ ?_
                        refine pure_ (i := 14) (N := some 118) (v := undef) (a' := ?_) #[true, true, true, true, true, true, true, true, true, true, true, true, true, true, true, false, false, false, false, false, false, false, false, false, false, false, false, false, false, false, false, false, false, false, false, false, false] rfl rfl (any_of HT_.out (by kernel_rfl)) (fun _ _ _ h => h) (Or.inr ⟨by rfl, rfl⟩) ?_ ?_
                        rotate_left
                        · simp only [Act.put, List.setIfInBounds_toArray, List.set_cons_zero, List.set_cons_succ, i64_w, i32_w]
                          rfl
                        refine pure_ (i := 15) (N := some 119) (v := undef) (a' := ?_) #[true, true, true, true, true, true, true, true, true, true, true, true, true, true, true, true, false, false, false, false, false, false, false, false, false, false, false, false, false, false, false, false, false, false, false, false, false] rfl rfl (any_of HT_.out (by kernel_rfl)) (fun _ _ _ h => h) (Or.inr ⟨by rfl, rfl⟩) ?_ ?_
                        rotate_left
                        · simp only [Act.put, List.setIfInBounds_toArray, List.set_cons_zero, List.set_cons_succ, i64_w, i32_w]
                          rfl
                        refine pure_ (i := 16) (N := some 120) (v := undef) (a' := ?_) #[true, true, true, true, true, true, true, true, true, true, true, true, true, true, true, true, true, false, false, false, false, false, false, false, false, false, false, false, false, false, false, false, false, false, false, false, false] rfl rfl (any_of HT_.out (by kernel_rfl)) (fun _ _ _ h => h) (Or.inr ⟨by rfl, rfl⟩) ?_ ?_
                        rotate_left
                        · simp only [Act.put, List.setIfInBounds_toArray, List.set_cons_zero, List.set_cons_succ, i64_w, i32_w]
                          rfl
                        refine pure_ (i := 17) (N := some 121) (v := undef) (a' := ?_) #[true, true, true, true, true, true, true, true, true, true, true, true, true, true, true, true, true, true, false, false, false, false, false, false, false, false, false, false, false, false, false, false, false, false, false, false, false] rfl rfl (any_of HT_.out (by kernel_rfl)) (fun _ _ _ h => h) (Or.inr ⟨by rfl, rfl⟩) ?_ ?_
                        rotate_left
                        · simp only [Act.put, List.setIfInBounds_toArray, List.set_cons_zero, List.set_cons_succ, i64_w, i32_w]
                          rfl
                        refine pure_ (i := 18) (N := some 122) (v := undef) (a' := ?_) #[true, true, true, true, true, true, true, true, true, true, true, true, true, true, true, true, true, true, true, false, false, false, false, false, false, false, false, false, false, false, false, false, false, false, false, false, false] rfl rfl (any_of HT_.out (by kernel_rfl)) (fun _ _ _ h => h) (Or.inr ⟨by rfl, rfl⟩) ?_ ?_
                        rotate_left
                        · simp only [Act.put, List.setIfInBounds_toArray, List.set_cons_zero, List.set_cons_succ, i64_w, i32_w]
                          rfl
                        refine pure_ (i := 19) (N := some 123) (v := undef) (a' := ?_) #[true, true, true, true, true, true, true, true, true, true, true, true, true, true, true, true, true, true, true, true, false, false, false, false, false, false, false, false, false, false, false, false, false, false, false, false, false] rfl rfl (any_of HT_.out (by kernel_rfl)) (fun _ _ _ h => h) (Or.inr ⟨by rfl, rfl⟩) ?_ ?_
                        rotate_left
                        · simp only [Act.put, List.setIfInBounds_toArray, List.set_cons_zero, List.set_cons_succ, i64_w, i32_w]
                          rfl
                        refine pure_ (i := 20) (N := some 124) (v := undef) (a' := ?_) #[true, true, true, true, true, true, true, true, true, true, true, true, true, true, true, true, true, true, true, true, true, false, false, false, false, false, false, false, false, false, false, false, false, false, false, false, false] rfl rfl (any_of HT_.out (by kernel_rfl)) (fun _ _ _ h => h) (Or.inr ⟨by rfl, rfl⟩) ?_ ?_
                        rotate_left
                        · simp only [Act.put, List.setIfInBounds_toArray, List.set_cons_zero, List.set_cons_succ, i64_w, i32_w]
                          rfl
                        refine pure_ (i := 21) (N := some 125) (v := undef) (a' := ?_) #[true, true, true, true, true, true, true, true, true, true, true, true, true, true, true, true, true, true, true, true, true, true, false, false, false, false, false, false, false, false, false, false, false, false, false, false, false] rfl rfl (any_of HT_.out (by kernel_rfl)) (fun _ _ _ h => h) (Or.inr ⟨by rfl, rfl⟩) ?_ ?_
                        rotate_left
                        · simp only [Act.put, List.setIfInBounds_toArray, List.set_cons_zero, List.set_cons_succ, i64_w, i32_w]
                          rfl
                        refine pure_ (i := 22) (N := some 126) (v := undef) (a' := ?_) #[true, true, true, true, true, true, true, true, true, true, true, true, true, true, true, true, true, true, true, true, true, true, true, false, false, false, false, false, false, false, false, false, false, false, false, false, false] rfl rfl (any_of HT_.out (by kernel_rfl)) (fun _ _ _ h => h) (Or.inr ⟨by rfl, rfl⟩) ?_ ?_
                        rotate_left
                        · simp only [Act.put, List.setIfInBounds_toArray, List.set_cons_zero, List.set_cons_succ, i64_w, i32_w]
                          rfl
                        refine pure_ (i := 23) (N := some 127) (v := undef) (a' := ?_) #[true, true, true, true, true, true, true, true, true, true, true, true, true, true, true, true, true, true, true, true, true, true, true, true, false, false, false, false, false, false, false, false, false, false, false, false, false] rfl rfl (any_of HT_.out (by kernel_rfl)) (fun _ _ _ h => h) (Or.inr ⟨by rfl, rfl⟩) ?_ ?_
                        rotate_left
                        · simp only [Act.put, List.setIfInBounds_toArray, List.set_cons_zero, List.set_cons_succ, i64_w, i32_w]
                          rfl
                        refine pureA 24 128 HT_ ?_
                        refine pureA 25 129 HT_ ?_
                        refine pureA 26 130 HT_ ?_
                        refine pureA 30 134 HT_ ?_
                        refine pureA 32 136 HT_ ?_
                        refine takeA 27 131 HT_ HW_ hHeld ?_
                        refine takeA 28 132 HT_ HW_ hHeld ?_
                        refine takeA 31 135 HT_ HW_ hHeld ?_
                        refine takeA 33 137 HT_ HW_ hHeld ?_
                        refine pureA 34 138 HT_ ?_
                        refine one_ (i := 29) (N := some 133) #[true, true, true, true, true, true, true, true, true, true, true, true, true, true, true, true, true, true, true, true, true, true, true, true, true, true, true, true, true, true, true, true, true, true, true, false, false] rfl rfl (one_of HT_.out (by kernel_rfl)) (by decide) (fun K hK => ?_)
                        refine goes_ Try.func17 (by kernel_rfl) rfl #[.agg #[.int .i64 a0_0, .int .i64 a0_1, .int .i64 a0_2, .int .i64 a0_3], .agg #[.int .i64 t284, .int .i64 t285, .slice Ao81 t286.length co81, .slice Ao82 t289.length co82]] (by rfl) rfl rfl (by (try simp only [List.map_toArray, List.map_cons, List.map_nil]); first | done | rfl | (simp only [List.length_drop, List.length_take]; rfl)) ?_
                        with_reducible refine (fixed_Ends.calls a0_0 a0_1 a0_2 a0_3 t284 t285 _ _ t286 _ _ t289 t317 _ ?side1 ?side2 ?side3 ?side4 A162.out).mono ?_
                        (case side1 => repeat (first | exact (Kd.V_reads' HO_297002.out).2.2 | (with_reducible refine Kd.C_alloc ?_ _) | (with_reducible refine Kd.C_drewN ?_ _) | (with_reducible refine Kd.C_drew ?_)))
                        (case side2 => exact (Kd.V_reads' HO_297002.out).2.1)
                        (case side3 => repeat (first | exact (Kd.V_reads' HO_297003.out).2.2 | (with_reducible refine Kd.C_alloc ?_ _) | (with_reducible refine Kd.C_drewN ?_ _) | (with_reducible refine Kd.C_drew ?_)))
                        (case side4 => exact (Kd.V_reads' HO_297003.out).2.1)
                        rintro e w165 ⟨rfl, hb⟩
                        refine ⟨_, rfl, ?_⟩
                        replace HO_297002 := vb HO_297002 hb
                        replace HO_297003 := vb HO_297003 hb
                        replace BK277 := Aside0.mk (blk_below (bo BK277) hb)
                        replace BK278 := Aside0.mk (blk_below (bo BK278) hb)
                        replace BK279 := Aside0.mk (blk_below (bo BK279) hb)
                        replace BK296 := Aside0.mk (blk_below (bo BK296) hb)
                        replace BK297 := Aside0.mk (blk_below (bo BK297) hb)
                        replace HB := Aside0.mk (below_step (bl HB) hb)
                        (try clear hb)
                        (try clear hb2)
                        (try clear hk)
                        (try clear hi)
                        refine hK.out _ _ ⟨(blk_cell BK277.out 0).trans rfl, (blk_cell BK277.out 1).trans rfl, (blk_cell BK277.out 2).trans rfl, (blk_cell BK277.out 3).trans rfl, (blk_cell BK296.out 0).trans rfl, (blk_cell BK296.out 1).trans rfl, (blk_cell BK296.out 2).trans rfl, (blk_cell BK296.out 3).trans rfl, (blk_cell BK297.out 0).trans rfl, (blk_cell BK297.out 1).trans rfl, (blk_cell BK297.out 2).trans rfl, (blk_cell BK297.out 3).trans rfl⟩ (fun hHeld => ?_)
                        clear hK K
                        refine norm_ (a' := ?_) ?_ ?_
                        rotate_left
                        · show Act.put _ (some 133) _ = _
                          simp only [Act.put, List.setIfInBounds_toArray, List.set_cons_zero, List.set_cons_succ, i64_w, i32_w]
                          rfl
                        refine pureA 35 139 HT_ ?_
                        refine pureA 36 140 HT_ ?_
                        refine done_ (done_of HT_.out (by kernel_rfl)) ?_
                        try go_wp2
                        go_meet
                        case rel => exact ⟨_, ((t317 != (wrap64 (t284 + t295)))), (by first | (with_reducible rfl) | rfl | (simp; done) | (simp [*]; done)), H', ⟨by have := HJ3.out; have := HJ66.out; have := HJ105.out; first | omega | exact Nat.le_refl _⟩, ⟨by (with_reducible repeat (first | apply Kd.V_alloc | apply Kd.V_drewN | apply Kd.V_drew)); exact HO_297002.out⟩, ⟨by (with_reducible repeat (first | apply Kd.V_alloc | apply Kd.V_drewN | apply Kd.V_drew)); exact HO_297003.out⟩, ⟨bo BK277⟩, ⟨bo BK278⟩, ⟨bo BK279⟩, ⟨bo BK296⟩, ⟨bo BK297⟩, ⟨bl HB⟩⟩
                    · rw [if_neg c150] at H
                      have c150b0 : (t314 == 0) = false := beq_eq_false_iff_ne.mpr c150
                      have c150b1 : (t314 != 0) = true := bne_iff_ne.mpr c150
                      (first | rw [c150b0] | (simp only [i64_w, i32_w]; rw [c150b0]) | skip)
                      have H' := Aside0.mk H
                      clear H
                      try go_wp2
                      replace HO_297002 := Aside0.mk (Kd.V_drew HO_297002.out)
                      replace HO_297003 := Aside0.mk (Kd.V_drew HO_297003.out)
                      replace BK277 := Aside0.mk (blk_drew BK277.out)
                      replace BK278 := Aside0.mk (blk_drew BK278.out)
                      replace BK279 := Aside0.mk (blk_drew BK279.out)
                      replace BK296 := Aside0.mk (blk_drew BK296.out)
                      replace BK297 := Aside0.mk (blk_drew BK297.out)
                      replace HB := Aside0.mk (below_drew1 HB.out)
                      refine start_ (n := 37) (S := fun w' => w'.cell? ⟨gb277, 0, none⟩ = some (.int .i64 a0_0) ∧ w'.cell? ⟨gb277, 1, none⟩ = some (.int .i64 a0_1) ∧ w'.cell? ⟨gb277, 2, none⟩ = some (.int .i64 a0_2) ∧ w'.cell? ⟨gb277, 3, none⟩ = some (.int .i64 a0_3) ∧ w'.cell? ⟨gb296, 0, none⟩ = some (.int .i64 t284) ∧ w'.cell? ⟨gb296, 1, none⟩ = some (.int .i64 t285) ∧ w'.cell? ⟨gb296, 2, none⟩ = some (.slice Ao81 t286.length co81) ∧ w'.cell? ⟨gb296, 3, none⟩ = some (.slice Ao82 t289.length co82) ∧ w'.cell? ⟨gb297, 0, none⟩ = some (.bool t292) ∧ w'.cell? ⟨gb297, 1, none⟩ = some (.int .i64 t293) ∧ w'.cell? ⟨gb297, 2, none⟩ = some (.int .i64 t294) ∧ w'.cell? ⟨gb297, 3, none⟩ = some (.int .i64 t295)) (ds := []) #[false, false, false, false, false, false, false, false, false, false, false, false, false, false, false, false, false, false, false, false, false, false, false, false, false, false, false, false, false, false, false, false, false, false, false, false, false] (by kernel_rfl) rfl rfl ⟨(blk_cell BK277.out 0).trans rfl, (blk_cell BK277.out 1).trans rfl, (blk_cell BK277.out 2).trans rfl, (blk_cell BK277.out 3).trans rfl, (blk_cell BK296.out 0).trans rfl, (blk_cell BK296.out 1).trans rfl, (blk_cell BK296.out 2).trans rfl, (blk_cell BK296.out 3).trans rfl, (blk_cell BK297.out 0).trans rfl, (blk_cell BK297.out 1).trans rfl, (blk_cell BK297.out 2).trans rfl, (blk_cell BK297.out 3).trans rfl⟩ (fun hHeld => ?_); refine with_tabW sandglasslaw11_FixedMay.tab11 sandglasslaw11_FixedMay.bits11 (fun HT_ HW_ => ?_)
                      generalize wc.drew = w166 at HO_297002 HO_297003 BK277 BK278 BK279 BK296 BK297 HB hHeld ⊢
                      refine pureA 2 106 HT_ ?_
                      refine pureA 4 108 HT_ ?_
                      refine takeA 0 104 HT_ HW_ hHeld ?_
                      refine takeA 1 105 HT_ HW_ hHeld ?_
                      refine takeA 3 107 HT_ HW_ hHeld ?_
                      refine takeA 5 109 HT_ HW_ hHeld ?_
                      refine pureA 6 110 HT_ ?_
                      refine one_ (i := 7) (N := some 111) #[true, true, true, true, true, true, true, true, false, false, false, false, false, false, false, false, false, false, false, false, false, false, false, false, false, false, false, false, false, false, false, false, false, false, false, false, false] rfl rfl (one_of HT_.out (by kernel_rfl)) (by decide) (fun K hK => ?_)
                      refine goes_ Try.func15 (by kernel_rfl) rfl #[.agg #[.int .i64 a0_0, .int .i64 a0_1, .int .i64 a0_2, .int .i64 a0_3], .agg #[.int .i64 t284, .int .i64 t285, .slice Ao81 t286.length co81, .slice Ao82 t289.length co82], .int .i64 (wrap64 (t284 + t295))] (by rfl) rfl rfl (by (try simp only [List.map_toArray, List.map_cons, List.map_nil]); first | done | rfl | (simp only [List.length_drop, List.length_take]; rfl)) ?_
                      with_reducible refine (fixed_Total.calls kj105 a0_0 a0_1 a0_2 a0_3 t284 t285 _ _ t286 _ _ t289 (wrap64 (t284 + t295)) t314 _ ?side1 ?side2 ?side3 ?side4 A149.out).mono ?_
                      (case side1 => repeat (first | exact (Kd.V_reads' HO_297002.out).2.2 | (with_reducible refine Kd.C_alloc ?_ _) | (with_reducible refine Kd.C_drewN ?_ _) | (with_reducible refine Kd.C_drew ?_)))
                      (case side2 => exact (Kd.V_reads' HO_297002.out).2.1)
                      (case side3 => repeat (first | exact (Kd.V_reads' HO_297003.out).2.2 | (with_reducible refine Kd.C_alloc ?_ _) | (with_reducible refine Kd.C_drewN ?_ _) | (with_reducible refine Kd.C_drew ?_)))
                      (case side4 => exact (Kd.V_reads' HO_297003.out).2.1)
                      rintro e w167 ⟨rfl, hb⟩
                      refine ⟨_, rfl, ?_⟩
                      replace HO_297002 := vb HO_297002 hb
                      replace HO_297003 := vb HO_297003 hb
                      replace BK277 := Aside0.mk (blk_below (bo BK277) hb)
                      replace BK278 := Aside0.mk (blk_below (bo BK278) hb)
                      replace BK279 := Aside0.mk (blk_below (bo BK279) hb)
                      replace BK296 := Aside0.mk (blk_below (bo BK296) hb)
                      replace BK297 := Aside0.mk (blk_below (bo BK297) hb)
                      replace HB := Aside0.mk (below_step (bl HB) hb)
                      (try clear hb)
                      (try clear hb2)
                      (try clear hk)
                      (try clear hi)
                      refine hK.out _ _ ⟨(blk_cell BK277.out 0).trans rfl, (blk_cell BK277.out 1).trans rfl, (blk_cell BK277.out 2).trans rfl, (blk_cell BK277.out 3).trans rfl, (blk_cell BK296.out 0).trans rfl, (blk_cell BK296.out 1).trans rfl, (blk_cell BK296.out 2).trans rfl, (blk_cell BK296.out 3).trans rfl, (blk_cell BK297.out 0).trans rfl, (blk_cell BK297.out 1).trans rfl, (blk_cell BK297.out 2).trans rfl, (blk_cell BK297.out 3).trans rfl⟩ (fun hHeld => ?_)
                      clear hK K
                      refine norm_ (a' := ?_) ?_ ?_
                      rotate_left
                      · show Act.put _ (some 111) _ = _
                        simp only [Act.put, List.setIfInBounds_toArray, List.set_cons_zero, List.set_cons_succ, i64_w, i32_w]
                        rfl
                      refine pureA 8 112 HT_ ?_
                      refine pureA 9 113 HT_ ?_
                      refine pure_ (i := 10) (N := some 114) (v := undef) (a' := ?_) #[true, true, true, true, true, true, true, true, true, true, true, false, false, false, false, false, false, false, false, false, false, false, false, false, false, false, false, false, false, false, false, false, false, false, false, false, false] rfl rfl (any_of HT_.out (by kernel_rfl)) (fun _ _ _ h => h) (Or.inr ⟨by rfl, rfl⟩) ?_ ?_
                      rotate_left
                      · simp only [Act.put, List.setIfInBounds_toArray, List.set_cons_zero, List.set_cons_succ, i64_w, i32_w]
                        rfl
                      refine pure_ (i := 11) (N := some 115) (v := undef) (a' := ?_) #[true, true, true, true, true, true, true, true, true, true, true, true, false, false, false, false, false, false, false, false, false, false, false, false, false, false, false, false, false, false, false, false, false, false, false, false, false] rfl rfl (any_of HT_.out (by kernel_rfl)) (fun _ _ _ h => h) (Or.inr ⟨by rfl, rfl⟩) ?_ ?_
                      rotate_left
                      · simp only [Act.put, List.setIfInBounds_toArray, List.set_cons_zero, List.set_cons_succ, i64_w, i32_w]
                        rfl
                      refine pure_ (i := 12) (N := some 116) (v := undef) (a' := ?_) #[true, true, true, true, true, true, true, true, true, true, true, true, true, false, false, false, false, false, false, false, false, false, false, false, false, false, false, false, false, false, false, false, false, false, false, false, false] rfl rfl (any_of HT_.out (by kernel_rfl)) (fun _ _ _ h => h) (Or.inr ⟨by rfl, rfl⟩) ?_ ?_
                      rotate_left
                      · simp only [Act.put, List.setIfInBounds_toArray, List.set_cons_zero, List.set_cons_succ, i64_w, i32_w]
                        rfl
                      refine pure_ (i := 13) (N := some 117) (v := undef) (a' := ?_) #[true, true, true, true, true, true, true, true, true, true, true, true, true, true, false, false, false, false, false, false, false, false, false, false, false, false, false, false, false, false, false, false, false, false, false, false, false] rfl rfl (any_of HT_.out (by kernel_rfl)) (fun _ _ _ h => h) (Or.inr ⟨by rfl, rfl⟩) ?_ ?_
                      rotate_left
                      · simp only [Act.put, List.setIfInBounds_toArray, List.set_cons_zero, List.set_cons_succ, i64_w, i32_w]
                        rfl
                      refine pure_ (i := 14) (N := some 118) (v := undef) (a' := ?_) #[true, true, true, true, true, true, true, true, true, true, true, true, true, true, true, false, false, false, false, false, false, false, false, false, false, false, false, false, false, false, false, false, false, false, false, false, false] rfl rfl (any_of HT_.out (by kernel_rfl)) (fun _ _ _ h => h) (Or.inr ⟨by rfl, rfl⟩) ?_ ?_
                      rotate_left
                      · simp only [Act.put, List.setIfInBounds_toArray, List.set_cons_zero, List.set_cons_succ, i64_w, i32_w]
                        rfl
                      refine pure_ (i := 15) (N := some 119) (v := undef) (a' := ?_) #[true, true, true, true, true, true, true, true, true, true, true, true, true, true, true, true, false, false, false, false, false, false, false, false, false, false, false, false, false, false, false, false, false, false, false, false, false] rfl rfl (any_of HT_.out (by kernel_rfl)) (fun _ _ _ h => h) (Or.inr ⟨by rfl, rfl⟩) ?_ ?_
                      rotate_left
                      · simp only [Act.put, List.setIfInBounds_toArray, List.set_cons_zero, List.set_cons_succ, i64_w, i32_w]
                        rfl
                      refine pure_ (i := 16) (N := some 120) (v := undef) (a' := ?_) #[true, true, true, true, true, true, true, true, true, true, true, true, true, true, true, true, true, false, false, false, false, false, false, false, false, false, false, false, false, false, false, false, false, false, false, false, false] rfl rfl (any_of HT_.out (by kernel_rfl)) (fun _ _ _ h => h) (Or.inr ⟨by rfl, rfl⟩) ?_ ?_
                      rotate_left
                      · simp only [Act.put, List.setIfInBounds_toArray, List.set_cons_zero, List.set_cons_succ, i64_w, i32_w]
                        rfl
                      refine pure_ (i := 17) (N := some 121) (v := undef) (a' := ?_) #[true, true, true, true, true, true, true, true, true, true, true, true, true, true, true, true, true, true, false, false, false, false, false, false, false, false, false, false, false, false, false, false, false, false, false, false, false] rfl rfl (any_of HT_.out (by kernel_rfl)) (fun _ _ _ h => h) (Or.inr ⟨by rfl, rfl⟩) ?_ ?_
                      rotate_left
                      · simp only [Act.put, List.setIfInBounds_toArray, List.set_cons_zero, List.set_cons_succ, i64_w, i32_w]
                        rfl
                      refine pure_ (i := 18) (N := some 122) (v := undef) (a' := ?_) #[true, true, true, true, true, true, true, true, true, true, true, true, true, true, true, true, true, true, true, false, false, false, false, false, false, false, false, false, false, false, false, false, false, false, false, false, false] rfl rfl (any_of HT_.out (by kernel_rfl)) (fun _ _ _ h => h) (Or.inr ⟨by rfl, rfl⟩) ?_ ?_
                      rotate_left
                      · simp only [Act.put, List.setIfInBounds_toArray, List.set_cons_zero, List.set_cons_succ, i64_w, i32_w]
                        rfl
                      refine pure_ (i := 19) (N := some 123) (v := undef) (a' := ?_) #[true, true, true, true, true, true, true, true, true, true, true, true, true, true, true, true, true, true, true, true, false, false, false, false, false, false, false, false, false, false, false, false, false, false, false, false, false] rfl rfl (any_of HT_.out (by kernel_rfl)) (fun _ _ _ h => h) (Or.inr ⟨by rfl, rfl⟩) ?_ ?_
                      rotate_left
                      · simp only [Act.put, List.setIfInBounds_toArray, List.set_cons_zero, List.set_cons_succ, i64_w, i32_w]
                        rfl
                      refine pure_ (i := 20) (N := some 124) (v := undef) (a' := ?_) #[true, true, true, true, true, true, true, true, true, true, true, true, true, true, true, true, true, true, true, true, true, false, false, false, false, false, false, false, false, false, false, false, false, false, false, false, false] rfl rfl (any_of HT_.out (by kernel_rfl)) (fun _ _ _ h => h) (Or.inr ⟨by rfl, rfl⟩) ?_ ?_
                      rotate_left
                      · simp only [Act.put, List.setIfInBounds_toArray, List.set_cons_zero, List.set_cons_succ, i64_w, i32_w]
                        rfl
                      refine pure_ (i := 21) (N := some 125) (v := undef) (a' := ?_) #[true, true, true, true, true, true, true, true, true, true, true, true, true, true, true, true, true, true, true, true, true, true, false, false, false, false, false, false, false, false, false, false, false, false, false, false, false] rfl rfl (any_of HT_.out (by kernel_rfl)) (fun _ _ _ h => h) (Or.inr ⟨by rfl, rfl⟩) ?_ ?_
                      rotate_left
                      · simp only [Act.put, List.setIfInBounds_toArray, List.set_cons_zero, List.set_cons_succ, i64_w, i32_w]
                        rfl
                      refine pure_ (i := 22) (N := some 126) (v := undef) (a' := ?_) #[true, true, true, true, true, true, true, true, true, true, true, true, true, true, true, true, true, true, true, true, true, true, true, false, false, false, false, false, false, false, false, false, false, false, false, false, false] rfl rfl (any_of HT_.out (by kernel_rfl)) (fun _ _ _ h => h) (Or.inr ⟨by rfl, rfl⟩) ?_ ?_
                      rotate_left
                      · simp only [Act.put, List.setIfInBounds_toArray, List.set_cons_zero, List.set_cons_succ, i64_w, i32_w]
                        rfl
                      refine pure_ (i := 23) (N := some 127) (v := undef) (a' := ?_) #[true, true, true, true, true, true, true, true, true, true, true, true, true, true, true, true, true, true, true, true, true, true, true, true, false, false, false, false, false, false, false, false, false, false, false, false, false] rfl rfl (any_of HT_.out (by kernel_rfl)) (fun _ _ _ h => h) (Or.inr ⟨by rfl, rfl⟩) ?_ ?_
                      rotate_left
                      · simp only [Act.put, List.setIfInBounds_toArray, List.set_cons_zero, List.set_cons_succ, i64_w, i32_w]
                        rfl
                      refine pure_ (i := 24) (N := some 128) (v := undef) (a' := ?_) #[true, true, true, true, true, true, true, true, true, true, true, true, true, true, true, true, true, true, true, true, true, true, true, true, true, false, false, false, false, false, false, false, false, false, false, false, false] rfl rfl (any_of HT_.out (by kernel_rfl)) (fun _ _ _ h => h) (Or.inr ⟨by rfl, rfl⟩) ?_ ?_
                      rotate_left
                      · simp only [Act.put, List.setIfInBounds_toArray, List.set_cons_zero, List.set_cons_succ, i64_w, i32_w]
                        rfl
                      refine pureA 25 129 HT_ ?_
                      refine pureA 26 130 HT_ ?_
                      refine pure_ (i := 27) (N := some 131) (v := undef) (a' := ?_) #[true, true, true, true, true, true, true, true, true, true, true, true, true, true, true, true, true, true, true, true, true, true, true, true, true, true, true, true, false, false, false, false, false, false, false, false, false] rfl rfl (any_of HT_.out (by kernel_rfl)) (fun _ _ _ h => h) (Or.inr ⟨by rfl, rfl⟩) ?_ ?_
                      rotate_left
                      · simp only [Act.put, List.setIfInBounds_toArray, List.set_cons_zero, List.set_cons_succ, i64_w, i32_w]
                        rfl
                      refine pure_ (i := 28) (N := some 132) (v := undef) (a' := ?_) #[true, true, true, true, true, true, true, true, true, true, true, true, true, true, true, true, true, true, true, true, true, true, true, true, true, true, true, true, true, false, false, false, false, false, false, false, false] rfl rfl (any_of HT_.out (by kernel_rfl)) (fun _ _ _ h => h) (Or.inr ⟨by rfl, rfl⟩) ?_ ?_
                      rotate_left
                      · simp only [Act.put, List.setIfInBounds_toArray, List.set_cons_zero, List.set_cons_succ, i64_w, i32_w]
                        rfl
                      refine pure_ (i := 29) (N := some 133) (v := undef) (a' := ?_) #[true, true, true, true, true, true, true, true, true, true, true, true, true, true, true, true, true, true, true, true, true, true, true, true, true, true, true, true, true, true, false, false, false, false, false, false, false] rfl rfl (any_of HT_.out (by kernel_rfl)) (fun _ _ _ h => h) (Or.inr ⟨by rfl, rfl⟩) ?_ ?_
                      rotate_left
                      · simp only [Act.put, List.setIfInBounds_toArray, List.set_cons_zero, List.set_cons_succ, i64_w, i32_w]
                        rfl
                      refine pure_ (i := 30) (N := some 134) (v := undef) (a' := ?_) #[true, true, true, true, true, true, true, true, true, true, true, true, true, true, true, true, true, true, true, true, true, true, true, true, true, true, true, true, true, true, true, false, false, false, false, false, false] rfl rfl (any_of HT_.out (by kernel_rfl)) (fun _ _ _ h => h) (Or.inr ⟨by rfl, rfl⟩) ?_ ?_
                      rotate_left
                      · simp only [Act.put, List.setIfInBounds_toArray, List.set_cons_zero, List.set_cons_succ, i64_w, i32_w]
                        rfl
                      refine pure_ (i := 31) (N := some 135) (v := undef) (a' := ?_) #[true, true, true, true, true, true, true, true, true, true, true, true, true, true, true, true, true, true, true, true, true, true, true, true, true, true, true, true, true, true, true, true, false, false, false, false, false] rfl rfl (any_of HT_.out (by kernel_rfl)) (fun _ _ _ h => h) (Or.inr ⟨by rfl, rfl⟩) ?_ ?_
                      rotate_left
                      · simp only [Act.put, List.setIfInBounds_toArray, List.set_cons_zero, List.set_cons_succ, i64_w, i32_w]
                        rfl
                      refine pure_ (i := 32) (N := some 136) (v := undef) (a' := ?_) #[true, true, true, true, true, true, true, true, true, true, true, true, true, true, true, true, true, true, true, true, true, true, true, true, true, true, true, true, true, true, true, true, true, false, false, false, false] rfl rfl (any_of HT_.out (by kernel_rfl)) (fun _ _ _ h => h) (Or.inr ⟨by rfl, rfl⟩) ?_ ?_
                      rotate_left
                      · simp only [Act.put, List.setIfInBounds_toArray, List.set_cons_zero, List.set_cons_succ, i64_w, i32_w]
                        rfl
                      refine pure_ (i := 33) (N := some 137) (v := undef) (a' := ?_) #[true, true, true, true, true, true, true, true, true, true, true, true, true, true, true, true, true, true, true, true, true, true, true, true, true, true, true, true, true, true, true, true, true, true, false, false, false] rfl rfl (any_of HT_.out (by kernel_rfl)) (fun _ _ _ h => h) (Or.inr ⟨by rfl, rfl⟩) ?_ ?_
                      rotate_left
                      · simp only [Act.put, List.setIfInBounds_toArray, List.set_cons_zero, List.set_cons_succ, i64_w, i32_w]
                        rfl
                      refine pure_ (i := 34) (N := some 138) (v := undef) (a' := ?_) #[true, true, true, true, true, true, true, true, true, true, true, true, true, true, true, true, true, true, true, true, true, true, true, true, true, true, true, true, true, true, true, true, true, true, true, false, false] rfl rfl (any_of HT_.out (by kernel_rfl)) (fun _ _ _ h => h) (Or.inr ⟨by rfl, rfl⟩) ?_ ?_
                      rotate_left
                      · simp only [Act.put, List.setIfInBounds_toArray, List.set_cons_zero, List.set_cons_succ, i64_w, i32_w]
                        rfl
                      refine pure_ (i := 35) (N := some 139) (v := undef) (a' := ?_) #[true, true, true, true, true, true, true, true, true, true, true, true, true, true, true, true, true, true, true, true, true, true, true, true, true, true, true, true, true, true, true, true, true, true, true, true, false] rfl rfl (any_of HT_.out (by kernel_rfl)) (fun _ _ _ h => h) (Or.inr ⟨by rfl, rfl⟩) ?_ ?_
                      rotate_left
                      · simp only [Act.put, List.setIfInBounds_toArray, List.set_cons_zero, List.set_cons_succ, i64_w, i32_w]
                        rfl
                      refine pureA 36 140 HT_ ?_
                      refine done_ (done_of HT_.out (by kernel_rfl)) ?_
                      try go_wp2
                      go_meet
                      case rel => exact ⟨_, (true), (by first | (with_reducible rfl) | rfl | (simp; done) | (simp [*]; done)), H', ⟨by have := HJ3.out; have := HJ66.out; have := HJ105.out; first | omega | exact Nat.le_refl _⟩, ⟨by (with_reducible repeat (first | apply Kd.V_alloc | apply Kd.V_drewN | apply Kd.V_drew)); exact HO_297002.out⟩, ⟨by (with_reducible repeat (first | apply Kd.V_alloc | apply Kd.V_drewN | apply Kd.V_drew)); exact HO_297003.out⟩, ⟨bo BK277⟩, ⟨bo BK278⟩, ⟨bo BK279⟩, ⟨bo BK296⟩, ⟨bo BK297⟩, ⟨bl HB⟩⟩
                  case rest =>
                    as_aux_lemma =>
                    clear HC148
                    try clear c1
                    try clear p2
                    try clear p6
                    try clear c15
                    try clear c17
                    try clear p64
                    try clear c150
                    try clear c150b0
                    try clear c150b1
                    obtain ⟨kq, x140_147, rfl, HA, HJ147, HO_297002, HO_297003, BK277, BK278, BK279, BK296, BK297, HB⟩ := hcut
                    cases kq with
                    | zero => exact absurd HA.out (by simp [sandglasslaw11_FixedMay.j3])
                    | succ kj147 =>
                      have H := HA.out
                      clear HA
                      simp only [sandglasslaw11_FixedMay.j3] at H
                      by_cases c168 : x140_147 = true
                      · subst c168
                        rw [if_pos rfl] at H
                        exact absurd H (by simp)
                      · replace c168 := Bool.eq_false_iff.mpr c168
                        subst c168
                        rw [if_neg (show ¬ (false = true) by decide)] at H
                        by_cases c169 : t292 = true
                        · subst c169
                          rw [if_pos rfl] at H
                          by_cases c170 : t294 = 0
                          · rw [if_pos c170] at H
                            have c170b0 : (t294 == 0) = true := beq_iff_eq.mpr c170
                            have c170b1 : (t294 != 0) = false := bne_eq_false_iff_eq.mpr c170
                            clear c170
                            replace H := Option.bind_eq_some_iff.mp H
                            obtain ⟨t318, A1710, H⟩ := H
                            have A171 := Aside0.mk A1710
                            clear A1710
                            obtain rfl := Option.some.inj H
                            have hnb172 := NB297_277.out
                            have hnc172 := NB277_297.out
                            have hnb173 := NB297_278.out
                            have hnc173 := NB278_297.out
                            have hnb174 := NB297_279.out
                            have hnc174 := NB279_297.out
                            have hnb175 := NB297_296.out
                            have hnc175 := NB296_297.out
                            obtain ⟨hcz176_0, hcz176_1, hcz176_2, hcz176_3⟩ := ce4 BK297
                            obtain ⟨hfz176_0, hfz176_1, hfz176_2, hfz176_3⟩ := fr4 BK297
                            go_wp2_with (first | (go_at_call 9; (with_reducible refine (sandglasslaw11_live.calls kj147  t318 _ A171.out).mono ?_); rintro e w177 ⟨rfl, hb⟩; replace HO_297002 := vb HO_297002 hb; replace HO_297003 := vb HO_297003 hb; replace BK277 := Aside0.mk (blk_below (bo BK277) hb); replace BK278 := Aside0.mk (blk_below (bo BK278) hb); replace BK279 := Aside0.mk (blk_below (bo BK279) hb); replace BK296 := Aside0.mk (blk_below (bo BK296) hb); replace BK297 := Aside0.mk (blk_below (bo BK297) hb); replace HB := Aside0.mk (below_step (bl HB) hb); (try clear hb); (try clear hb2); (try clear hk); (try clear hi)))
                            go_ret
                            exact ⟨by first | (with_reducible rfl) | rfl | (simp [errW_none, errW_some] <;> rfl) | (simp [*, errW_none, errW_some] <;> rfl), bl HB⟩
                          · rw [if_neg c170] at H
                            exact absurd H (by simp)
                        · replace c169 := Bool.eq_false_iff.mpr c169
                          subst c169
                          rw [if_neg (show ¬ (false = true) by decide)] at H
                          by_cases c178 : a2_1 > a0_1
                          · rw [if_pos c178] at H
                            have c178b0 : decide (a0_1 < a2_1) = true := decide_eq_true c178
                            clear c178
                            by_cases c179 : t294 = 2199023255552
                            · rw [if_pos c179] at H
                              have c179b0 : (t294 == 2199023255552) = true := beq_iff_eq.mpr c179
                              have c179b1 : (t294 != 2199023255552) = false := bne_eq_false_iff_eq.mpr c179
                              clear c179
                              replace H := Option.bind_eq_some_iff.mp H
                              obtain ⟨t319, A1800, H⟩ := H
                              have A180 := Aside0.mk A1800
                              clear A1800
                              obtain rfl := Option.some.inj H
                              have hnb181 := NB297_277.out
                              have hnc181 := NB277_297.out
                              have hnb182 := NB297_278.out
                              have hnc182 := NB278_297.out
                              have hnb183 := NB297_279.out
                              have hnc183 := NB279_297.out
                              have hnb184 := NB297_296.out
                              have hnc184 := NB296_297.out
                              obtain ⟨hcz185_0, hcz185_1, hcz185_2, hcz185_3⟩ := ce4 BK297
                              obtain ⟨hfz185_0, hfz185_1, hfz185_2, hfz185_3⟩ := fr4 BK297
                              have hnb186 := NB277_278.out
                              have hnc186 := NB278_277.out
                              have hnb187 := NB277_279.out
                              have hnc187 := NB279_277.out
                              have hnb188 := NB277_296.out
                              have hnc188 := NB296_277.out
                              obtain ⟨hcz189_0, hcz189_1, hcz189_2, hcz189_3⟩ := ce4 BK277
                              obtain ⟨hfz189_0, hfz189_1, hfz189_2, hfz189_3⟩ := fr4 BK277
                              go_wp2_with (first | (go_at_call 9; (with_reducible refine (sandglasslaw11_live.calls kj147  t319 _ A180.out).mono ?_); rintro e w190 ⟨rfl, hb⟩; replace HO_297002 := vb HO_297002 hb; replace HO_297003 := vb HO_297003 hb; replace BK277 := Aside0.mk (blk_below (bo BK277) hb); replace BK278 := Aside0.mk (blk_below (bo BK278) hb); replace BK279 := Aside0.mk (blk_below (bo BK279) hb); replace BK296 := Aside0.mk (blk_below (bo BK296) hb); replace BK297 := Aside0.mk (blk_below (bo BK297) hb); replace HB := Aside0.mk (below_step (bl HB) hb); (try clear hb); (try clear hb2); (try clear hk); (try clear hi)))
                              go_ret
                              exact ⟨by first | (with_reducible rfl) | rfl | (simp [errW_none, errW_some] <;> rfl) | (simp [*, errW_none, errW_some] <;> rfl), bl HB⟩
                            · rw [if_neg c179] at H
                              exact absurd H (by simp)
                          · rw [if_neg c178] at H
                            have c178b0 : decide (a0_1 < a2_1) = false := decide_eq_false c178
                            clear c178
                            replace H := Option.bind_eq_some_iff.mp H
                            obtain ⟨⟨t320, t321, t322, t325, t328, t329, t330, t331⟩, A1910, H⟩ := H
                            have A191 := Aside0.mk A1910
                            clear A1910
                            replace H := Option.bind_eq_some_iff.mp H
                            obtain ⟨⟨t334, t335, t336, t339, t342, t343, t344, t345⟩, A1920, H⟩ := H
                            have A192 := Aside0.mk A1920
                            clear A1920
                            by_cases c193 : t294 > 0
                            · rw [if_pos c193] at H
                              have c193b0 : decide (0 < t294) = true := decide_eq_true c193
                              clear c193
                              by_cases c194 : t328 = true
                              · subst c194
                                rw [if_pos rfl] at H
                                by_cases c195 : t342 = true
                                · subst c195
                                  rw [if_pos rfl] at H
                                  exact absurd H (by simp)
                                · replace c195 := Bool.eq_false_iff.mpr c195
                                  subst c195
                                  rw [if_neg (show ¬ (false = true) by decide)] at H
                                  replace H := Option.bind_eq_some_iff.mp H
                                  obtain ⟨t348, A1960, H⟩ := H
                                  have A196 := Aside0.mk A1960
                                  clear A1960
                                  obtain rfl := Option.some.inj H
                                  have hnb197 := NB297_277.out
                                  have hnc197 := NB277_297.out
                                  have hnb198 := NB297_278.out
                                  have hnc198 := NB278_297.out
                                  have hnb199 := NB297_279.out
                                  have hnc199 := NB279_297.out
                                  have hnb200 := NB297_296.out
                                  have hnc200 := NB296_297.out
                                  obtain ⟨hcz201_0, hcz201_1, hcz201_2, hcz201_3⟩ := ce4 BK297
                                  obtain ⟨hfz201_0, hfz201_1, hfz201_2, hfz201_3⟩ := fr4 BK297
                                  have hnb202 := NB277_278.out
                                  have hnc202 := NB278_277.out
                                  have hnb203 := NB277_279.out
                                  have hnc203 := NB279_277.out
                                  have hnb204 := NB277_296.out
                                  have hnc204 := NB296_277.out
                                  obtain ⟨hcz205_0, hcz205_1, hcz205_2, hcz205_3⟩ := ce4 BK277
                                  obtain ⟨hfz205_0, hfz205_1, hfz205_2, hfz205_3⟩ := fr4 BK277
                                  have hnb206 := NB296_278.out
                                  have hnc206 := NB278_296.out
                                  have hnb207 := NB296_279.out
                                  have hnc207 := NB279_296.out
                                  obtain ⟨hcz208_0, hcz208_1, hcz208_2, hcz208_3⟩ := ce4 BK296
                                  obtain ⟨hfz208_0, hfz208_1, hfz208_2, hfz208_3⟩ := fr4 BK296
                                  go_wp2_with (first | ((with_reducible refine gate_callee (f := 10) rfl ?_); refine goesL_ (some 168) rfl rfl Try.func10 (by kernel_rfl) rfl #[.agg #[.int .i64 a0_0, .int .i64 a0_1, .int .i64 a0_2, .int .i64 a0_3], .agg #[.int .i64 t284, .int .i64 t285, .slice Ao81 t286.length co81, .slice Ao82 t289.length co82], .int .i64 (wrap64 (t284 + t294)), .int .i64 a2_1] rfl (by (try simp only [List.map_toArray, List.map_cons, List.map_nil]); first | done | rfl | (simp only [List.length_drop, List.length_take]; rfl)) ?_; (with_reducible refine (fixed_Ask.calls kj147 a0_0 a0_1 a0_2 a0_3 t284 t285 (fun k_ => (k_ ≠ gb277 ∧ (k_ ≠ gb278 ∧ (k_ ≠ gb279 ∧ (k_ ≠ gb296 ∧ k_ ≠ gb297))))) _ _ t286 (fun k_ => (k_ ≠ gb277 ∧ (k_ ≠ gb278 ∧ (k_ ≠ gb279 ∧ (k_ ≠ gb296 ∧ k_ ≠ gb297))))) _ _ t289 (wrap64 (t284 + t294)) a2_1 t320 t321 t322 t325 true t329 t330 t331 _ ?side1 ?side2 A191.out).mono ?_); (case side1 => exact HO_297002.out); (case side2 => exact HO_297003.out); rintro e w209 ⟨v323, v326, rfl, ho0, ho1, hb⟩; refine ⟨_, rfl, ?_⟩; have HO324 := Aside0.mk (Kd.V_lower (Kd.V_mono (ok' := fun k_ => k_ ≠ gb277 ∧ k_ ≠ gb278 ∧ k_ ≠ gb279 ∧ k_ ≠ gb296 ∧ k_ ≠ gb297) ho0 (fun k_ hk_ => ⟨Or.elim hk_ (fun hs_ => Or.elim hs_ (fun hs_ => hs_.1) (fun hs_ => hs_.1)) (fun hn_ => (Kd.freshB (bo BK277) k_ hn_)), Or.elim hk_ (fun hs_ => Or.elim hs_ (fun hs_ => hs_.2.1) (fun hs_ => hs_.2.1)) (fun hn_ => (Kd.freshB (bo BK278) k_ hn_)), Or.elim hk_ (fun hs_ => Or.elim hs_ (fun hs_ => hs_.2.2.1) (fun hs_ => hs_.2.2.1)) (fun hn_ => (Kd.freshB (bo BK279) k_ hn_)), Or.elim hk_ (fun hs_ => Or.elim hs_ (fun hs_ => hs_.2.2.2.1) (fun hs_ => hs_.2.2.2.1)) (fun hn_ => (Kd.freshB (bo BK296) k_ hn_)), Or.elim hk_ (fun hs_ => Or.elim hs_ (fun hs_ => hs_.2.2.2.2) (fun hs_ => hs_.2.2.2.2)) (fun hn_ => (Kd.freshB (bo BK297) k_ hn_))⟩)) (below_size (bl HB))); have HO327 := Aside0.mk (Kd.V_lower (Kd.V_mono (ok' := fun k_ => k_ ≠ gb277 ∧ k_ ≠ gb278 ∧ k_ ≠ gb279 ∧ k_ ≠ gb296 ∧ k_ ≠ gb297) ho1 (fun k_ hk_ => ⟨Or.elim hk_ (fun hs_ => Or.elim hs_ (fun hs_ => hs_.1) (fun hs_ => hs_.1)) (fun hn_ => (Kd.freshB (bo BK277) k_ hn_)), Or.elim hk_ (fun hs_ => Or.elim hs_ (fun hs_ => hs_.2.1) (fun hs_ => hs_.2.1)) (fun hn_ => (Kd.freshB (bo BK278) k_ hn_)), Or.elim hk_ (fun hs_ => Or.elim hs_ (fun hs_ => hs_.2.2.1) (fun hs_ => hs_.2.2.1)) (fun hn_ => (Kd.freshB (bo BK279) k_ hn_)), Or.elim hk_ (fun hs_ => Or.elim hs_ (fun hs_ => hs_.2.2.2.1) (fun hs_ => hs_.2.2.2.1)) (fun hn_ => (Kd.freshB (bo BK296) k_ hn_)), Or.elim hk_ (fun hs_ => Or.elim hs_ (fun hs_ => hs_.2.2.2.2) (fun hs_ => hs_.2.2.2.2)) (fun hn_ => (Kd.freshB (bo BK297) k_ hn_))⟩)) (below_size (bl HB))); replace HO_297002 := vb HO_297002 hb; replace HO_297003 := vb HO_297003 hb; replace BK277 := Aside0.mk (blk_below (bo BK277) hb); replace BK278 := Aside0.mk (blk_below (bo BK278) hb); replace BK279 := Aside0.mk (blk_below (bo BK279) hb); replace BK296 := Aside0.mk (blk_below (bo BK296) hb); replace BK297 := Aside0.mk (blk_below (bo BK297) hb); replace HB := Aside0.mk (below_step (bl HB) hb); (try clear hb); (try clear hb2); (try clear hk); (try clear hi); (try clear ho0); (try clear ho1)) | ((with_reducible refine gate_dst (N := 13) rfl ?_); (try (refine gate_guard (by rfl) ?_; dsimp only)); refine box_event ?hg (N := 13) ?hd (cs := #[.int .i64 0, .int .i64 0, .slice none 0 0, .slice none 0 0]) (t := 27) ?hr ?_; (case hd => rfl); (case hg => rfl); (case hr => first | (go_simp; done) | (go_simp; rfl)); intro gb332 hg w210 hbox hb; have BK332 := Aside0.mk (hbox); have GW332 := Aside0.mk ((by rw [hg]; exact (below_size (bl HB)) : w.heap.size ≤ gb332)); have GE332 := Aside0.mk ((by rw [hg]; exact (below_size (bl HB)) : w.heap.size ≤ gb332)); have NB277_332 := nb BK277 hg; have NB332_277 := bn BK277 hg; have NB278_332 := nb BK278 hg; have NB332_278 := bn BK278 hg; have NB279_332 := nb BK279 hg; have NB332_279 := bn BK279 hg; have NB296_332 := nb BK296 hg; have NB332_296 := bn BK296 hg; have NB297_332 := nb BK297 hg; have NB332_297 := bn BK297 hg; replace HO_297002 := ve HO_297002 hg hb; replace HO_297003 := ve HO_297003 hg hb; replace HO324 := ve HO324 hg hb; replace HO327 := ve HO327 hg hb; replace BK277 := Aside0.mk (blk_below (bo BK277) hb); replace BK278 := Aside0.mk (blk_below (bo BK278) hb); replace BK279 := Aside0.mk (blk_below (bo BK279) hb); replace BK296 := Aside0.mk (blk_below (bo BK296) hb); replace BK297 := Aside0.mk (blk_below (bo BK297) hb); replace HB := Aside0.mk (below_step (bl HB) hb); clear hb hbox hg) | ((with_reducible refine gate_dst (N := 14) rfl ?_); (try (refine gate_guard (by rfl) ?_; dsimp only)); refine box_event ?hg (N := 14) ?hd (cs := #[.bool false, .int .i64 0, .int .i64 0, .int .i64 0]) (t := 32) ?hr ?_; (case hd => rfl); (case hg => rfl); (case hr => first | (go_simp; done) | (go_simp; rfl)); intro gb333 hg w211 hbox hb; have BK333 := Aside0.mk (hbox); have GW333 := Aside0.mk ((by rw [hg]; exact (below_size (bl HB)) : w.heap.size ≤ gb333)); have GE333 := Aside0.mk ((by rw [hg]; exact (below_size (bl HB)) : w.heap.size ≤ gb333)); have NB277_333 := nb BK277 hg; have NB333_277 := bn BK277 hg; have NB278_333 := nb BK278 hg; have NB333_278 := bn BK278 hg; have NB279_333 := nb BK279 hg; have NB333_279 := bn BK279 hg; have NB296_333 := nb BK296 hg; have NB333_296 := bn BK296 hg; have NB297_333 := nb BK297 hg; have NB333_297 := bn BK297 hg; have NB332_333 := nb BK332 hg; have NB333_332 := bn BK332 hg; replace HO_297002 := ve HO_297002 hg hb; replace HO_297003 := ve HO_297003 hg hb; replace HO324 := ve HO324 hg hb; replace HO327 := ve HO327 hg hb; replace BK277 := Aside0.mk (blk_below (bo BK277) hb); replace BK278 := Aside0.mk (blk_below (bo BK278) hb); replace BK279 := Aside0.mk (blk_below (bo BK279) hb); replace BK296 := Aside0.mk (blk_below (bo BK296) hb); replace BK297 := Aside0.mk (blk_below (bo BK297) hb); replace BK332 := Aside0.mk (blk_below (bo BK332) hb); replace HB := Aside0.mk (below_step (bl HB) hb); clear hb hbox hg; have hnb212 := NB332_277.out; have hnc212 := NB277_332.out; have hnb213 := NB332_278.out; have hnc213 := NB278_332.out; have hnb214 := NB332_279.out; have hnc214 := NB279_332.out; have hnb215 := NB332_296.out; have hnc215 := NB296_332.out; have hnb216 := NB332_297.out; have hnc216 := NB297_332.out; have hnb217 := NB332_333.out; have hnc217 := NB333_332.out; obtain ⟨hcz218_0, hcz218_1, hcz218_2, hcz218_3⟩ := ce4 BK332; obtain ⟨hfz218_0, hfz218_1, hfz218_2, hfz218_3⟩ := fr4 BK332; obtain ⟨Ao219, co219, eo219⟩ := Kd.V_slice HO324.out; subst eo219; obtain ⟨Ao220, co220, eo220⟩ := Kd.V_slice HO327.out; subst eo220) | ((with_reducible refine gate_store (t := 27) (p := 13) rfl ?_); refine store_event (t := 27) (p := 13) (v := ?vo_w221) (w1 := ((((w211.setCell ⟨gb332, 0, none⟩ (.int .i64 t320)).setCell ⟨gb332, 1, none⟩ (.int .i64 t321)).setCell ⟨gb332, 2, none⟩ (.slice Ao219 t322.length co219)).setCell ⟨gb332, 3, none⟩ (.slice Ao220 t325.length co220))) ?hg ?ho ?hn ?hr ?_; (case ho => rfl); (case hg => rfl); (case hn => rfl); (case hr => first | (go_simp; done) | (go_simp; rfl)); intro w221 hw; replace HO_297002 : Aside0 (Kd.V (Kd.int .i64) 3 w221 w.heap.size (fun k_ => k_ ≠ gb277 ∧ k_ ≠ gb278 ∧ k_ ≠ gb279 ∧ k_ ≠ gb296 ∧ k_ ≠ gb297 ∧ k_ ≠ gb332 ∧ k_ ≠ gb333) (.slice Ao81 t286.length co81) t286) := ⟨(by rw [hw]; exact (by (with_reducible repeat (first | apply Kd.V_alloc | apply Kd.V_drewN | apply Kd.V_drew)); exact Kd.V_mono (Kd.V_far (p := ⟨gb332, 3, none⟩) (Kd.V_far (p := ⟨gb332, 2, none⟩) (Kd.V_far (p := ⟨gb332, 1, none⟩) (Kd.V_far (p := ⟨gb332, 0, none⟩) (Kd.V_mono HO_297002.out (fun k_ hk => (⟨hk, hk.1.2⟩ : _ ∧ k_ ≠ gb332))) (fun _ hk => hk.2) (.int .i64 t320)) (fun _ hk => hk.2) (.int .i64 t321)) (fun _ hk => hk.2) (.slice Ao219 t322.length co219)) (fun _ hk => hk.2) (.slice Ao220 t325.length co220)) (fun _ hk => ⟨hk.1.1.1.1, ⟨hk.1.1.1.2.1, ⟨hk.1.1.1.2.2.1, ⟨hk.1.1.1.2.2.2.1, ⟨hk.1.1.1.2.2.2.2, ⟨hk.1.1.2, hk.1.2⟩⟩⟩⟩⟩⟩)))⟩; replace HO_297003 : Aside0 (Kd.V k53 53 w221 w.heap.size (fun k_ => k_ ≠ gb277 ∧ k_ ≠ gb278 ∧ k_ ≠ gb279 ∧ k_ ≠ gb296 ∧ k_ ≠ gb297 ∧ k_ ≠ gb332 ∧ k_ ≠ gb333) (.slice Ao82 t289.length co82) t289) := ⟨(by rw [hw]; exact (by (with_reducible repeat (first | apply Kd.V_alloc | apply Kd.V_drewN | apply Kd.V_drew)); exact Kd.V_mono (Kd.V_far (p := ⟨gb332, 3, none⟩) (Kd.V_far (p := ⟨gb332, 2, none⟩) (Kd.V_far (p := ⟨gb332, 1, none⟩) (Kd.V_far (p := ⟨gb332, 0, none⟩) (Kd.V_mono HO_297003.out (fun k_ hk => (⟨hk, hk.1.2⟩ : _ ∧ k_ ≠ gb332))) (fun _ hk => hk.2) (.int .i64 t320)) (fun _ hk => hk.2) (.int .i64 t321)) (fun _ hk => hk.2) (.slice Ao219 t322.length co219)) (fun _ hk => hk.2) (.slice Ao220 t325.length co220)) (fun _ hk => ⟨hk.1.1.1.1, ⟨hk.1.1.1.2.1, ⟨hk.1.1.1.2.2.1, ⟨hk.1.1.1.2.2.2.1, ⟨hk.1.1.1.2.2.2.2, ⟨hk.1.1.2, hk.1.2⟩⟩⟩⟩⟩⟩)))⟩; replace HO324 : Aside0 (Kd.V (Kd.int .i64) 3 w221 w.heap.size (fun k_ => k_ ≠ gb277 ∧ k_ ≠ gb278 ∧ k_ ≠ gb279 ∧ k_ ≠ gb296 ∧ k_ ≠ gb297 ∧ k_ ≠ gb332 ∧ k_ ≠ gb333) (.slice Ao219 t322.length co219) t322) := ⟨(by rw [hw]; exact (by (with_reducible repeat (first | apply Kd.V_alloc | apply Kd.V_drewN | apply Kd.V_drew)); exact Kd.V_mono (Kd.V_far (p := ⟨gb332, 3, none⟩) (Kd.V_far (p := ⟨gb332, 2, none⟩) (Kd.V_far (p := ⟨gb332, 1, none⟩) (Kd.V_far (p := ⟨gb332, 0, none⟩) (Kd.V_mono HO324.out (fun k_ hk => (⟨hk, hk.1.2⟩ : _ ∧ k_ ≠ gb332))) (fun _ hk => hk.2) (.int .i64 t320)) (fun _ hk => hk.2) (.int .i64 t321)) (fun _ hk => hk.2) (.slice Ao219 t322.length co219)) (fun _ hk => hk.2) (.slice Ao220 t325.length co220)) (fun _ hk => ⟨hk.1.1.1.1, ⟨hk.1.1.1.2.1, ⟨hk.1.1.1.2.2.1, ⟨hk.1.1.1.2.2.2.1, ⟨hk.1.1.1.2.2.2.2, ⟨hk.1.1.2, hk.1.2⟩⟩⟩⟩⟩⟩)))⟩; replace HO327 : Aside0 (Kd.V k53 53 w221 w.heap.size (fun k_ => k_ ≠ gb277 ∧ k_ ≠ gb278 ∧ k_ ≠ gb279 ∧ k_ ≠ gb296 ∧ k_ ≠ gb297 ∧ k_ ≠ gb332 ∧ k_ ≠ gb333) (.slice Ao220 t325.length co220) t325) := ⟨(by rw [hw]; exact (by (with_reducible repeat (first | apply Kd.V_alloc | apply Kd.V_drewN | apply Kd.V_drew)); exact Kd.V_mono (Kd.V_far (p := ⟨gb332, 3, none⟩) (Kd.V_far (p := ⟨gb332, 2, none⟩) (Kd.V_far (p := ⟨gb332, 1, none⟩) (Kd.V_far (p := ⟨gb332, 0, none⟩) (Kd.V_mono HO327.out (fun k_ hk => (⟨hk, hk.1.2⟩ : _ ∧ k_ ≠ gb332))) (fun _ hk => hk.2) (.int .i64 t320)) (fun _ hk => hk.2) (.int .i64 t321)) (fun _ hk => hk.2) (.slice Ao219 t322.length co219)) (fun _ hk => hk.2) (.slice Ao220 t325.length co220)) (fun _ hk => ⟨hk.1.1.1.1, ⟨hk.1.1.1.2.1, ⟨hk.1.1.1.2.2.1, ⟨hk.1.1.1.2.2.2.1, ⟨hk.1.1.1.2.2.2.2, ⟨hk.1.1.2, hk.1.2⟩⟩⟩⟩⟩⟩)))⟩; replace BK277 : Aside0 (w221.heap[gb277]? = some (.cells #[.int .i64 a0_0, .int .i64 a0_1, .int .i64 a0_2, .int .i64 a0_3] 23 (0, 0))) := ⟨(by rw [hw]; exact (by (with_reducible repeat (first | refine blk_drewN ?_ _ | refine blk_drew ?_ | refine blk_alloc ?_ _)); refine blk_far ?_ NB277_332.out _; (with_reducible repeat (first | refine blk_drewN ?_ _ | refine blk_drew ?_ | refine blk_alloc ?_ _)); refine blk_far ?_ NB277_332.out _; (with_reducible repeat (first | refine blk_drewN ?_ _ | refine blk_drew ?_ | refine blk_alloc ?_ _)); refine blk_far ?_ NB277_332.out _; (with_reducible repeat (first | refine blk_drewN ?_ _ | refine blk_drew ?_ | refine blk_alloc ?_ _)); refine blk_far ?_ NB277_332.out _; (with_reducible repeat (first | refine blk_drewN ?_ _ | refine blk_drew ?_ | refine blk_alloc ?_ _)); exact BK277.out))⟩; replace BK278 : Aside0 (w221.heap[gb278]? = some (.cells #[.int .i64 a1_0, .int .i64 a1_1, .slice A1_2 l1_2.length c1_2, .slice A1_3 l1_3.length c1_3] 27 (0, 0))) := ⟨(by rw [hw]; exact (by (with_reducible repeat (first | refine blk_drewN ?_ _ | refine blk_drew ?_ | refine blk_alloc ?_ _)); refine blk_far ?_ NB278_332.out _; (with_reducible repeat (first | refine blk_drewN ?_ _ | refine blk_drew ?_ | refine blk_alloc ?_ _)); refine blk_far ?_ NB278_332.out _; (with_reducible repeat (first | refine blk_drewN ?_ _ | refine blk_drew ?_ | refine blk_alloc ?_ _)); refine blk_far ?_ NB278_332.out _; (with_reducible repeat (first | refine blk_drewN ?_ _ | refine blk_drew ?_ | refine blk_alloc ?_ _)); refine blk_far ?_ NB278_332.out _; (with_reducible repeat (first | refine blk_drewN ?_ _ | refine blk_drew ?_ | refine blk_alloc ?_ _)); exact BK278.out))⟩; replace BK279 : Aside0 (w221.heap[gb279]? = some (.cells #[.int .i64 a2_0, .int .i64 a2_1] 28 (0, 0))) := ⟨(by rw [hw]; exact (by (with_reducible repeat (first | refine blk_drewN ?_ _ | refine blk_drew ?_ | refine blk_alloc ?_ _)); refine blk_far ?_ NB279_332.out _; (with_reducible repeat (first | refine blk_drewN ?_ _ | refine blk_drew ?_ | refine blk_alloc ?_ _)); refine blk_far ?_ NB279_332.out _; (with_reducible repeat (first | refine blk_drewN ?_ _ | refine blk_drew ?_ | refine blk_alloc ?_ _)); refine blk_far ?_ NB279_332.out _; (with_reducible repeat (first | refine blk_drewN ?_ _ | refine blk_drew ?_ | refine blk_alloc ?_ _)); refine blk_far ?_ NB279_332.out _; (with_reducible repeat (first | refine blk_drewN ?_ _ | refine blk_drew ?_ | refine blk_alloc ?_ _)); exact BK279.out))⟩; replace BK296 : Aside0 (w221.heap[gb296]? = some (.cells #[.int .i64 t284, .int .i64 t285, .slice Ao81 t286.length co81, .slice Ao82 t289.length co82] 27 (0, 0))) := ⟨(by rw [hw]; exact (by (with_reducible repeat (first | refine blk_drewN ?_ _ | refine blk_drew ?_ | refine blk_alloc ?_ _)); refine blk_far ?_ NB296_332.out _; (with_reducible repeat (first | refine blk_drewN ?_ _ | refine blk_drew ?_ | refine blk_alloc ?_ _)); refine blk_far ?_ NB296_332.out _; (with_reducible repeat (first | refine blk_drewN ?_ _ | refine blk_drew ?_ | refine blk_alloc ?_ _)); refine blk_far ?_ NB296_332.out _; (with_reducible repeat (first | refine blk_drewN ?_ _ | refine blk_drew ?_ | refine blk_alloc ?_ _)); refine blk_far ?_ NB296_332.out _; (with_reducible repeat (first | refine blk_drewN ?_ _ | refine blk_drew ?_ | refine blk_alloc ?_ _)); exact BK296.out))⟩; replace BK297 : Aside0 (w221.heap[gb297]? = some (.cells #[.bool false, .int .i64 t293, .int .i64 t294, .int .i64 t295] 32 (0, 0))) := ⟨(by rw [hw]; exact (by (with_reducible repeat (first | refine blk_drewN ?_ _ | refine blk_drew ?_ | refine blk_alloc ?_ _)); refine blk_far ?_ NB297_332.out _; (with_reducible repeat (first | refine blk_drewN ?_ _ | refine blk_drew ?_ | refine blk_alloc ?_ _)); refine blk_far ?_ NB297_332.out _; (with_reducible repeat (first | refine blk_drewN ?_ _ | refine blk_drew ?_ | refine blk_alloc ?_ _)); refine blk_far ?_ NB297_332.out _; (with_reducible repeat (first | refine blk_drewN ?_ _ | refine blk_drew ?_ | refine blk_alloc ?_ _)); refine blk_far ?_ NB297_332.out _; (with_reducible repeat (first | refine blk_drewN ?_ _ | refine blk_drew ?_ | refine blk_alloc ?_ _)); exact BK297.out))⟩; replace BK332 : Aside0 (w221.heap[gb332]? = some (.cells #[.int .i64 t320, .int .i64 t321, .slice Ao219 t322.length co219, .slice Ao220 t325.length co220] 27 (0, 0))) := ⟨(by rw [hw]; exact (by (with_reducible repeat (first | refine blk_drewN ?_ _ | refine blk_drew ?_ | refine blk_alloc ?_ _)); refine blk_put (cs := #[.int .i64 t320, .int .i64 t321, .slice Ao219 t322.length co219, .slice none 0 0]) ?_ 3 _ rfl; (with_reducible repeat (first | refine blk_drewN ?_ _ | refine blk_drew ?_ | refine blk_alloc ?_ _)); refine blk_put (cs := #[.int .i64 t320, .int .i64 t321, .slice none 0 0, .slice none 0 0]) ?_ 2 _ rfl; (with_reducible repeat (first | refine blk_drewN ?_ _ | refine blk_drew ?_ | refine blk_alloc ?_ _)); refine blk_put (cs := #[.int .i64 t320, .int .i64 0, .slice none 0 0, .slice none 0 0]) ?_ 1 _ rfl; (with_reducible repeat (first | refine blk_drewN ?_ _ | refine blk_drew ?_ | refine blk_alloc ?_ _)); refine blk_put (cs := #[.int .i64 0, .int .i64 0, .slice none 0 0, .slice none 0 0]) ?_ 0 _ rfl; (with_reducible repeat (first | refine blk_drewN ?_ _ | refine blk_drew ?_ | refine blk_alloc ?_ _)); exact BK332.out))⟩; replace BK333 : Aside0 (w221.heap[gb333]? = some (.cells #[.bool false, .int .i64 0, .int .i64 0, .int .i64 0] 32 (0, 0))) := ⟨(by rw [hw]; exact (by (with_reducible repeat (first | refine blk_drewN ?_ _ | refine blk_drew ?_ | refine blk_alloc ?_ _)); refine blk_far ?_ NB333_332.out _; (with_reducible repeat (first | refine blk_drewN ?_ _ | refine blk_drew ?_ | refine blk_alloc ?_ _)); refine blk_far ?_ NB333_332.out _; (with_reducible repeat (first | refine blk_drewN ?_ _ | refine blk_drew ?_ | refine blk_alloc ?_ _)); refine blk_far ?_ NB333_332.out _; (with_reducible repeat (first | refine blk_drewN ?_ _ | refine blk_drew ?_ | refine blk_alloc ?_ _)); refine blk_far ?_ NB333_332.out _; (with_reducible repeat (first | refine blk_drewN ?_ _ | refine blk_drew ?_ | refine blk_alloc ?_ _)); exact BK333.out))⟩; replace HB : Aside0 (Below w.heap.size w w221) := ⟨(by rw [hw]; exact (bl HB))⟩; clear hw; have hnb222 := NB333_277.out; have hnc222 := NB277_333.out; have hnb223 := NB333_278.out; have hnc223 := NB278_333.out; have hnb224 := NB333_279.out; have hnc224 := NB279_333.out; have hnb225 := NB333_296.out; have hnc225 := NB296_333.out; have hnb226 := NB333_297.out; have hnc226 := NB297_333.out; obtain ⟨hcz227_0, hcz227_1, hcz227_2, hcz227_3⟩ := ce4 BK333; obtain ⟨hfz227_0, hfz227_1, hfz227_2, hfz227_3⟩ := fr4 BK333) | ((with_reducible refine gate_store (t := 32) (p := 14) rfl ?_); refine store_event (t := 32) (p := 14) (v := ?vo_w228) (w1 := ((((w221.setCell ⟨gb333, 0, none⟩ (.bool true)).setCell ⟨gb333, 1, none⟩ (.int .i64 t329)).setCell ⟨gb333, 2, none⟩ (.int .i64 t330)).setCell ⟨gb333, 3, none⟩ (.int .i64 t331))) ?hg ?ho ?hn ?hr ?_; (case ho => rfl); (case hg => rfl); (case hn => rfl); (case hr => first | (go_simp; done) | (go_simp; rfl)); intro w228 hw; replace HO_297002 : Aside0 (Kd.V (Kd.int .i64) 3 w228 w.heap.size (fun k_ => k_ ≠ gb277 ∧ k_ ≠ gb278 ∧ k_ ≠ gb279 ∧ k_ ≠ gb296 ∧ k_ ≠ gb297 ∧ k_ ≠ gb332 ∧ k_ ≠ gb333) (.slice Ao81 t286.length co81) t286) := ⟨(by rw [hw]; exact (by (with_reducible repeat (first | apply Kd.V_alloc | apply Kd.V_drewN | apply Kd.V_drew)); exact Kd.V_mono (Kd.V_far (p := ⟨gb333, 3, none⟩) (Kd.V_far (p := ⟨gb333, 2, none⟩) (Kd.V_far (p := ⟨gb333, 1, none⟩) (Kd.V_far (p := ⟨gb333, 0, none⟩) (Kd.V_mono HO_297002.out (fun k_ hk => (⟨hk, hk.2.2.2.2.2.2⟩ : _ ∧ k_ ≠ gb333))) (fun _ hk => hk.2) (.bool true)) (fun _ hk => hk.2) (.int .i64 t329)) (fun _ hk => hk.2) (.int .i64 t330)) (fun _ hk => hk.2) (.int .i64 t331)) (fun _ hk => ⟨hk.1.1, ⟨hk.1.2.1, ⟨hk.1.2.2.1, ⟨hk.1.2.2.2.1, ⟨hk.1.2.2.2.2.1, ⟨hk.1.2.2.2.2.2.1, hk.1.2.2.2.2.2.2⟩⟩⟩⟩⟩⟩)))⟩; replace HO_297003 : Aside0 (Kd.V k53 53 w228 w.heap.size (fun k_ => k_ ≠ gb277 ∧ k_ ≠ gb278 ∧ k_ ≠ gb279 ∧ k_ ≠ gb296 ∧ k_ ≠ gb297 ∧ k_ ≠ gb332 ∧ k_ ≠ gb333) (.slice Ao82 t289.length co82) t289) := ⟨(by rw [hw]; exact (by (with_reducible repeat (first | apply Kd.V_alloc | apply Kd.V_drewN | apply Kd.V_drew)); exact Kd.V_mono (Kd.V_far (p := ⟨gb333, 3, none⟩) (Kd.V_far (p := ⟨gb333, 2, none⟩) (Kd.V_far (p := ⟨gb333, 1, none⟩) (Kd.V_far (p := ⟨gb333, 0, none⟩) (Kd.V_mono HO_297003.out (fun k_ hk => (⟨hk, hk.2.2.2.2.2.2⟩ : _ ∧ k_ ≠ gb333))) (fun _ hk => hk.2) (.bool true)) (fun _ hk => hk.2) (.int .i64 t329)) (fun _ hk => hk.2) (.int .i64 t330)) (fun _ hk => hk.2) (.int .i64 t331)) (fun _ hk => ⟨hk.1.1, ⟨hk.1.2.1, ⟨hk.1.2.2.1, ⟨hk.1.2.2.2.1, ⟨hk.1.2.2.2.2.1, ⟨hk.1.2.2.2.2.2.1, hk.1.2.2.2.2.2.2⟩⟩⟩⟩⟩⟩)))⟩; replace HO324 : Aside0 (Kd.V (Kd.int .i64) 3 w228 w.heap.size (fun k_ => k_ ≠ gb277 ∧ k_ ≠ gb278 ∧ k_ ≠ gb279 ∧ k_ ≠ gb296 ∧ k_ ≠ gb297 ∧ k_ ≠ gb332 ∧ k_ ≠ gb333) (.slice Ao219 t322.length co219) t322) := ⟨(by rw [hw]; exact (by (with_reducible repeat (first | apply Kd.V_alloc | apply Kd.V_drewN | apply Kd.V_drew)); exact Kd.V_mono (Kd.V_far (p := ⟨gb333, 3, none⟩) (Kd.V_far (p := ⟨gb333, 2, none⟩) (Kd.V_far (p := ⟨gb333, 1, none⟩) (Kd.V_far (p := ⟨gb333, 0, none⟩) (Kd.V_mono HO324.out (fun k_ hk => (⟨hk, hk.2.2.2.2.2.2⟩ : _ ∧ k_ ≠ gb333))) (fun _ hk => hk.2) (.bool true)) (fun _ hk => hk.2) (.int .i64 t329)) (fun _ hk => hk.2) (.int .i64 t330)) (fun _ hk => hk.2) (.int .i64 t331)) (fun _ hk => ⟨hk.1.1, ⟨hk.1.2.1, ⟨hk.1.2.2.1, ⟨hk.1.2.2.2.1, ⟨hk.1.2.2.2.2.1, ⟨hk.1.2.2.2.2.2.1, hk.1.2.2.2.2.2.2⟩⟩⟩⟩⟩⟩)))⟩; replace HO327 : Aside0 (Kd.V k53 53 w228 w.heap.size (fun k_ => k_ ≠ gb277 ∧ k_ ≠ gb278 ∧ k_ ≠ gb279 ∧ k_ ≠ gb296 ∧ k_ ≠ gb297 ∧ k_ ≠ gb332 ∧ k_ ≠ gb333) (.slice Ao220 t325.length co220) t325) := ⟨(by rw [hw]; exact (by (with_reducible repeat (first | apply Kd.V_alloc | apply Kd.V_drewN | apply Kd.V_drew)); exact Kd.V_mono (Kd.V_far (p := ⟨gb333, 3, none⟩) (Kd.V_far (p := ⟨gb333, 2, none⟩) (Kd.V_far (p := ⟨gb333, 1, none⟩) (Kd.V_far (p := ⟨gb333, 0, none⟩) (Kd.V_mono HO327.out (fun k_ hk => (⟨hk, hk.2.2.2.2.2.2⟩ : _ ∧ k_ ≠ gb333))) (fun _ hk => hk.2) (.bool true)) (fun _ hk => hk.2) (.int .i64 t329)) (fun _ hk => hk.2) (.int .i64 t330)) (fun _ hk => hk.2) (.int .i64 t331)) (fun _ hk => ⟨hk.1.1, ⟨hk.1.2.1, ⟨hk.1.2.2.1, ⟨hk.1.2.2.2.1, ⟨hk.1.2.2.2.2.1, ⟨hk.1.2.2.2.2.2.1, hk.1.2.2.2.2.2.2⟩⟩⟩⟩⟩⟩)))⟩; replace BK277 : Aside0 (w228.heap[gb277]? = some (.cells #[.int .i64 a0_0, .int .i64 a0_1, .int .i64 a0_2, .int .i64 a0_3] 23 (0, 0))) := ⟨(by rw [hw]; exact (by (with_reducible repeat (first | refine blk_drewN ?_ _ | refine blk_drew ?_ | refine blk_alloc ?_ _)); refine blk_far ?_ NB277_333.out _; (with_reducible repeat (first | refine blk_drewN ?_ _ | refine blk_drew ?_ | refine blk_alloc ?_ _)); refine blk_far ?_ NB277_333.out _; (with_reducible repeat (first | refine blk_drewN ?_ _ | refine blk_drew ?_ | refine blk_alloc ?_ _)); refine blk_far ?_ NB277_333.out _; (with_reducible repeat (first | refine blk_drewN ?_ _ | refine blk_drew ?_ | refine blk_alloc ?_ _)); refine blk_far ?_ NB277_333.out _; (with_reducible repeat (first | refine blk_drewN ?_ _ | refine blk_drew ?_ | refine blk_alloc ?_ _)); exact BK277.out))⟩; replace BK278 : Aside0 (w228.heap[gb278]? = some (.cells #[.int .i64 a1_0, .int .i64 a1_1, .slice A1_2 l1_2.length c1_2, .slice A1_3 l1_3.length c1_3] 27 (0, 0))) := ⟨(by rw [hw]; exact (by (with_reducible repeat (first | refine blk_drewN ?_ _ | refine blk_drew ?_ | refine blk_alloc ?_ _)); refine blk_far ?_ NB278_333.out _; (with_reducible repeat (first | refine blk_drewN ?_ _ | refine blk_drew ?_ | refine blk_alloc ?_ _)); refine blk_far ?_ NB278_333.out _; (with_reducible repeat (first | refine blk_drewN ?_ _ | refine blk_drew ?_ | refine blk_alloc ?_ _)); refine blk_far ?_ NB278_333.out _; (with_reducible repeat (first | refine blk_drewN ?_ _ | refine blk_drew ?_ | refine blk_alloc ?_ _)); refine blk_far ?_ NB278_333.out _; (with_reducible repeat (first | refine blk_drewN ?_ _ | refine blk_drew ?_ | refine blk_alloc ?_ _)); exact BK278.out))⟩; replace BK279 : Aside0 (w228.heap[gb279]? = some (.cells #[.int .i64 a2_0, .int .i64 a2_1] 28 (0, 0))) := ⟨(by rw [hw]; exact (by (with_reducible repeat (first | refine blk_drewN ?_ _ | refine blk_drew ?_ | refine blk_alloc ?_ _)); refine blk_far ?_ NB279_333.out _; (with_reducible repeat (first | refine blk_drewN ?_ _ | refine blk_drew ?_ | refine blk_alloc ?_ _)); refine blk_far ?_ NB279_333.out _; (with_reducible repeat (first | refine blk_drewN ?_ _ | refine blk_drew ?_ | refine blk_alloc ?_ _)); refine blk_far ?_ NB279_333.out _; (with_reducible repeat (first | refine blk_drewN ?_ _ | refine blk_drew ?_ | refine blk_alloc ?_ _)); refine blk_far ?_ NB279_333.out _; (with_reducible repeat (first | refine blk_drewN ?_ _ | refine blk_drew ?_ | refine blk_alloc ?_ _)); exact BK279.out))⟩; replace BK296 : Aside0 (w228.heap[gb296]? = some (.cells #[.int .i64 t284, .int .i64 t285, .slice Ao81 t286.length co81, .slice Ao82 t289.length co82] 27 (0, 0))) := ⟨(by rw [hw]; exact (by (with_reducible repeat (first | refine blk_drewN ?_ _ | refine blk_drew ?_ | refine blk_alloc ?_ _)); refine blk_far ?_ NB296_333.out _; (with_reducible repeat (first | refine blk_drewN ?_ _ | refine blk_drew ?_ | refine blk_alloc ?_ _)); refine blk_far ?_ NB296_333.out _; (with_reducible repeat (first | refine blk_drewN ?_ _ | refine blk_drew ?_ | refine blk_alloc ?_ _)); refine blk_far ?_ NB296_333.out _; (with_reducible repeat (first | refine blk_drewN ?_ _ | refine blk_drew ?_ | refine blk_alloc ?_ _)); refine blk_far ?_ NB296_333.out _; (with_reducible repeat (first | refine blk_drewN ?_ _ | refine blk_drew ?_ | refine blk_alloc ?_ _)); exact BK296.out))⟩; replace BK297 : Aside0 (w228.heap[gb297]? = some (.cells #[.bool false, .int .i64 t293, .int .i64 t294, .int .i64 t295] 32 (0, 0))) := ⟨(by rw [hw]; exact (by (with_reducible repeat (first | refine blk_drewN ?_ _ | refine blk_drew ?_ | refine blk_alloc ?_ _)); refine blk_far ?_ NB297_333.out _; (with_reducible repeat (first | refine blk_drewN ?_ _ | refine blk_drew ?_ | refine blk_alloc ?_ _)); refine blk_far ?_ NB297_333.out _; (with_reducible repeat (first | refine blk_drewN ?_ _ | refine blk_drew ?_ | refine blk_alloc ?_ _)); refine blk_far ?_ NB297_333.out _; (with_reducible repeat (first | refine blk_drewN ?_ _ | refine blk_drew ?_ | refine blk_alloc ?_ _)); refine blk_far ?_ NB297_333.out _; (with_reducible repeat (first | refine blk_drewN ?_ _ | refine blk_drew ?_ | refine blk_alloc ?_ _)); exact BK297.out))⟩; replace BK332 : Aside0 (w228.heap[gb332]? = some (.cells #[.int .i64 t320, .int .i64 t321, .slice Ao219 t322.length co219, .slice Ao220 t325.length co220] 27 (0, 0))) := ⟨(by rw [hw]; exact (by (with_reducible repeat (first | refine blk_drewN ?_ _ | refine blk_drew ?_ | refine blk_alloc ?_ _)); refine blk_far ?_ NB332_333.out _; (with_reducible repeat (first | refine blk_drewN ?_ _ | refine blk_drew ?_ | refine blk_alloc ?_ _)); refine blk_far ?_ NB332_333.out _; (with_reducible repeat (first | refine blk_drewN ?_ _ | refine blk_drew ?_ | refine blk_alloc ?_ _)); refine blk_far ?_ NB332_333.out _; (with_reducible repeat (first | refine blk_drewN ?_ _ | refine blk_drew ?_ | refine blk_alloc ?_ _)); refine blk_far ?_ NB332_333.out _; (with_reducible repeat (first | refine blk_drewN ?_ _ | refine blk_drew ?_ | refine blk_alloc ?_ _)); exact BK332.out))⟩; replace BK333 : Aside0 (w228.heap[gb333]? = some (.cells #[.bool true, .int .i64 t329, .int .i64 t330, .int .i64 t331] 32 (0, 0))) := ⟨(by rw [hw]; exact (by (with_reducible repeat (first | refine blk_drewN ?_ _ | refine blk_drew ?_ | refine blk_alloc ?_ _)); refine blk_put (cs := #[.bool true, .int .i64 t329, .int .i64 t330, .int .i64 0]) ?_ 3 _ rfl; (with_reducible repeat (first | refine blk_drewN ?_ _ | refine blk_drew ?_ | refine blk_alloc ?_ _)); refine blk_put (cs := #[.bool true, .int .i64 t329, .int .i64 0, .int .i64 0]) ?_ 2 _ rfl; (with_reducible repeat (first | refine blk_drewN ?_ _ | refine blk_drew ?_ | refine blk_alloc ?_ _)); refine blk_put (cs := #[.bool true, .int .i64 0, .int .i64 0, .int .i64 0]) ?_ 1 _ rfl; (with_reducible repeat (first | refine blk_drewN ?_ _ | refine blk_drew ?_ | refine blk_alloc ?_ _)); refine blk_put (cs := #[.bool false, .int .i64 0, .int .i64 0, .int .i64 0]) ?_ 0 _ rfl; (with_reducible repeat (first | refine blk_drewN ?_ _ | refine blk_drew ?_ | refine blk_alloc ?_ _)); exact BK333.out))⟩; replace HB : Aside0 (Below w.heap.size w w228) := ⟨(by rw [hw]; exact (bl HB))⟩; clear hw; obtain ⟨hcz229_0, hcz229_1, hcz229_2, hcz229_3⟩ := ce4 BK277; obtain ⟨hfz229_0, hfz229_1, hfz229_2, hfz229_3⟩ := fr4 BK277; obtain ⟨hcz230_0, hcz230_1, hcz230_2, hcz230_3⟩ := ce4 BK296; obtain ⟨hfz230_0, hfz230_1, hfz230_2, hfz230_3⟩ := fr4 BK296; obtain ⟨hcz231_0, hcz231_1, hcz231_2, hcz231_3⟩ := ce4 BK297; obtain ⟨hfz231_0, hfz231_1, hfz231_2, hfz231_3⟩ := fr4 BK297) | ((with_reducible refine gate_callee (f := 10) rfl ?_); refine goesL_ (some 181) rfl rfl Try.func10 (by kernel_rfl) rfl #[.agg #[.int .i64 a0_0, .int .i64 a0_1, .int .i64 a0_2, .int .i64 a0_3], .agg #[.int .i64 t284, .int .i64 t285, .slice Ao81 t286.length co81, .slice Ao82 t289.length co82], .int .i64 (wrap64 ((wrap64 (t284 + t294)) - 1)), .int .i64 a2_1] rfl (by (try simp only [List.map_toArray, List.map_cons, List.map_nil]); first | done | rfl | (simp only [List.length_drop, List.length_take]; rfl)) ?_; (with_reducible refine (fixed_Ask.calls kj147 a0_0 a0_1 a0_2 a0_3 t284 t285 (fun k_ => (k_ ≠ gb277 ∧ (k_ ≠ gb278 ∧ (k_ ≠ gb279 ∧ (k_ ≠ gb296 ∧ (k_ ≠ gb297 ∧ (k_ ≠ gb332 ∧ k_ ≠ gb333))))))) _ _ t286 (fun k_ => (k_ ≠ gb277 ∧ (k_ ≠ gb278 ∧ (k_ ≠ gb279 ∧ (k_ ≠ gb296 ∧ (k_ ≠ gb297 ∧ (k_ ≠ gb332 ∧ k_ ≠ gb333))))))) _ _ t289 (wrap64 ((wrap64 (t284 + t294)) - 1)) a2_1 t334 t335 t336 t339 false t343 t344 t345 _ ?side1 ?side2 A192.out).mono ?_); (case side1 => exact HO_297002.out); (case side2 => exact HO_297003.out); rintro e w232 ⟨v337, v340, rfl, ho0, ho1, hb⟩; refine ⟨_, rfl, ?_⟩; have HO338 := Aside0.mk (Kd.V_lower (Kd.V_mono (ok' := fun k_ => k_ ≠ gb277 ∧ k_ ≠ gb278 ∧ k_ ≠ gb279 ∧ k_ ≠ gb296 ∧ k_ ≠ gb297 ∧ k_ ≠ gb332 ∧ k_ ≠ gb333) ho0 (fun k_ hk_ => ⟨Or.elim hk_ (fun hs_ => Or.elim hs_ (fun hs_ => hs_.1) (fun hs_ => hs_.1)) (fun hn_ => (Kd.freshB (bo BK277) k_ hn_)), Or.elim hk_ (fun hs_ => Or.elim hs_ (fun hs_ => hs_.2.1) (fun hs_ => hs_.2.1)) (fun hn_ => (Kd.freshB (bo BK278) k_ hn_)), Or.elim hk_ (fun hs_ => Or.elim hs_ (fun hs_ => hs_.2.2.1) (fun hs_ => hs_.2.2.1)) (fun hn_ => (Kd.freshB (bo BK279) k_ hn_)), Or.elim hk_ (fun hs_ => Or.elim hs_ (fun hs_ => hs_.2.2.2.1) (fun hs_ => hs_.2.2.2.1)) (fun hn_ => (Kd.freshB (bo BK296) k_ hn_)), Or.elim hk_ (fun hs_ => Or.elim hs_ (fun hs_ => hs_.2.2.2.2.1) (fun hs_ => hs_.2.2.2.2.1)) (fun hn_ => (Kd.freshB (bo BK297) k_ hn_)), Or.elim hk_ (fun hs_ => Or.elim hs_ (fun hs_ => hs_.2.2.2.2.2.1) (fun hs_ => hs_.2.2.2.2.2.1)) (fun hn_ => (Kd.freshB (bo BK332) k_ hn_)), Or.elim hk_ (fun hs_ => Or.elim hs_ (fun hs_ => hs_.2.2.2.2.2.2) (fun hs_ => hs_.2.2.2.2.2.2)) (fun hn_ => (Kd.freshB (bo BK333) k_ hn_))⟩)) (below_size (bl HB))); have HO341 := Aside0.mk (Kd.V_lower (Kd.V_mono (ok' := fun k_ => k_ ≠ gb277 ∧ k_ ≠ gb278 ∧ k_ ≠ gb279 ∧ k_ ≠ gb296 ∧ k_ ≠ gb297 ∧ k_ ≠ gb332 ∧ k_ ≠ gb333) ho1 (fun k_ hk_ => ⟨Or.elim hk_ (fun hs_ => Or.elim hs_ (fun hs_ => hs_.1) (fun hs_ => hs_.1)) (fun hn_ => (Kd.freshB (bo BK277) k_ hn_)), Or.elim hk_ (fun hs_ => Or.elim hs_ (fun hs_ => hs_.2.1) (fun hs_ => hs_.2.1)) (fun hn_ => (Kd.freshB (bo BK278) k_ hn_)), Or.elim hk_ (fun hs_ => Or.elim hs_ (fun hs_ => hs_.2.2.1) (fun hs_ => hs_.2.2.1)) (fun hn_ => (Kd.freshB (bo BK279) k_ hn_)), Or.elim hk_ (fun hs_ => Or.elim hs_ (fun hs_ => hs_.2.2.2.1) (fun hs_ => hs_.2.2.2.1)) (fun hn_ => (Kd.freshB (bo BK296) k_ hn_)), Or.elim hk_ (fun hs_ => Or.elim hs_ (fun hs_ => hs_.2.2.2.2.1) (fun hs_ => hs_.2.2.2.2.1)) (fun hn_ => (Kd.freshB (bo BK297) k_ hn_)), Or.elim hk_ (fun hs_ => Or.elim hs_ (fun hs_ => hs_.2.2.2.2.2.1) (fun hs_ => hs_.2.2.2.2.2.1)) (fun hn_ => (Kd.freshB (bo BK332) k_ hn_)), Or.elim hk_ (fun hs_ => Or.elim hs_ (fun hs_ => hs_.2.2.2.2.2.2) (fun hs_ => hs_.2.2.2.2.2.2)) (fun hn_ => (Kd.freshB (bo BK333) k_ hn_))⟩)) (below_size (bl HB))); replace HO_297002 := vb HO_297002 hb; replace HO_297003 := vb HO_297003 hb; replace HO324 := vb HO324 hb; replace HO327 := vb HO327 hb; replace BK277 := Aside0.mk (blk_below (bo BK277) hb); replace BK278 := Aside0.mk (blk_below (bo BK278) hb); replace BK279 := Aside0.mk (blk_below (bo BK279) hb); replace BK296 := Aside0.mk (blk_below (bo BK296) hb); replace BK297 := Aside0.mk (blk_below (bo BK297) hb); replace BK332 := Aside0.mk (blk_below (bo BK332) hb); replace BK333 := Aside0.mk (blk_below (bo BK333) hb); replace HB := Aside0.mk (below_step (bl HB) hb); (try clear hb); (try clear hb2); (try clear hk); (try clear hi); (try clear ho0); (try clear ho1)) | ((with_reducible refine gate_dst (N := 15) rfl ?_); (try (refine gate_guard (by rfl) ?_; dsimp only)); refine box_event ?hg (N := 15) ?hd (cs := #[.int .i64 0, .int .i64 0, .slice none 0 0, .slice none 0 0]) (t := 27) ?hr ?_; (case hd => rfl); (case hg => rfl); (case hr => first | (go_simp; done) | (go_simp; rfl)); intro gb346 hg w233 hbox hb; have BK346 := Aside0.mk (hbox); have GW346 := Aside0.mk ((by rw [hg]; exact (below_size (bl HB)) : w.heap.size ≤ gb346)); have GE346 := Aside0.mk ((by rw [hg]; exact (below_size (bl HB)) : w.heap.size ≤ gb346)); have NB277_346 := nb BK277 hg; have NB346_277 := bn BK277 hg; have NB278_346 := nb BK278 hg; have NB346_278 := bn BK278 hg; have NB279_346 := nb BK279 hg; have NB346_279 := bn BK279 hg; have NB296_346 := nb BK296 hg; have NB346_296 := bn BK296 hg; have NB297_346 := nb BK297 hg; have NB346_297 := bn BK297 hg; have NB332_346 := nb BK332 hg; have NB346_332 := bn BK332 hg; have NB333_346 := nb BK333 hg; have NB346_333 := bn BK333 hg; replace HO_297002 := ve HO_297002 hg hb; replace HO_297003 := ve HO_297003 hg hb; replace HO324 := ve HO324 hg hb; replace HO327 := ve HO327 hg hb; replace HO338 := ve HO338 hg hb; replace HO341 := ve HO341 hg hb; replace BK277 := Aside0.mk (blk_below (bo BK277) hb); replace BK278 := Aside0.mk (blk_below (bo BK278) hb); replace BK279 := Aside0.mk (blk_below (bo BK279) hb); replace BK296 := Aside0.mk (blk_below (bo BK296) hb); replace BK297 := Aside0.mk (blk_below (bo BK297) hb); replace BK332 := Aside0.mk (blk_below (bo BK332) hb); replace BK333 := Aside0.mk (blk_below (bo BK333) hb); replace HB := Aside0.mk (below_step (bl HB) hb); clear hb hbox hg) | ((with_reducible refine gate_dst (N := 16) rfl ?_); (try (refine gate_guard (by rfl) ?_; dsimp only)); refine box_event ?hg (N := 16) ?hd (cs := #[.bool false, .int .i64 0, .int .i64 0, .int .i64 0]) (t := 32) ?hr ?_; (case hd => rfl); (case hg => rfl); (case hr => first | (go_simp; done) | (go_simp; rfl)); intro gb347 hg w234 hbox hb; have BK347 := Aside0.mk (hbox); have GW347 := Aside0.mk ((by rw [hg]; exact (below_size (bl HB)) : w.heap.size ≤ gb347)); have GE347 := Aside0.mk ((by rw [hg]; exact (below_size (bl HB)) : w.heap.size ≤ gb347)); have NB277_347 := nb BK277 hg; have NB347_277 := bn BK277 hg; have NB278_347 := nb BK278 hg; have NB347_278 := bn BK278 hg; have NB279_347 := nb BK279 hg; have NB347_279 := bn BK279 hg; have NB296_347 := nb BK296 hg; have NB347_296 := bn BK296 hg; have NB297_347 := nb BK297 hg; have NB347_297 := bn BK297 hg; have NB332_347 := nb BK332 hg; have NB347_332 := bn BK332 hg; have NB333_347 := nb BK333 hg; have NB347_333 := bn BK333 hg; have NB346_347 := nb BK346 hg; have NB347_346 := bn BK346 hg; replace HO_297002 := ve HO_297002 hg hb; replace HO_297003 := ve HO_297003 hg hb; replace HO324 := ve HO324 hg hb; replace HO327 := ve HO327 hg hb; replace HO338 := ve HO338 hg hb; replace HO341 := ve HO341 hg hb; replace BK277 := Aside0.mk (blk_below (bo BK277) hb); replace BK278 := Aside0.mk (blk_below (bo BK278) hb); replace BK279 := Aside0.mk (blk_below (bo BK279) hb); replace BK296 := Aside0.mk (blk_below (bo BK296) hb); replace BK297 := Aside0.mk (blk_below (bo BK297) hb); replace BK332 := Aside0.mk (blk_below (bo BK332) hb); replace BK333 := Aside0.mk (blk_below (bo BK333) hb); replace BK346 := Aside0.mk (blk_below (bo BK346) hb); replace HB := Aside0.mk (below_step (bl HB) hb); clear hb hbox hg; have hnb235 := NB346_277.out; have hnc235 := NB277_346.out; have hnb236 := NB346_278.out; have hnc236 := NB278_346.out; have hnb237 := NB346_279.out; have hnc237 := NB279_346.out; have hnb238 := NB346_296.out; have hnc238 := NB296_346.out; have hnb239 := NB346_297.out; have hnc239 := NB297_346.out; have hnb240 := NB346_332.out; have hnc240 := NB332_346.out; have hnb241 := NB346_333.out; have hnc241 := NB333_346.out; have hnb242 := NB346_347.out; have hnc242 := NB347_346.out; obtain ⟨hcz243_0, hcz243_1, hcz243_2, hcz243_3⟩ := ce4 BK346; obtain ⟨hfz243_0, hfz243_1, hfz243_2, hfz243_3⟩ := fr4 BK346; obtain ⟨Ao244, co244, eo244⟩ := Kd.V_slice HO338.out; subst eo244; obtain ⟨Ao245, co245, eo245⟩ := Kd.V_slice HO341.out; subst eo245) | ((with_reducible refine gate_store (t := 27) (p := 15) rfl ?_); refine store_event (t := 27) (p := 15) (v := ?vo_w246) (w1 := ((((w234.setCell ⟨gb346, 0, none⟩ (.int .i64 t334)).setCell ⟨gb346, 1, none⟩ (.int .i64 t335)).setCell ⟨gb346, 2, none⟩ (.slice Ao244 t336.length co244)).setCell ⟨gb346, 3, none⟩ (.slice Ao245 t339.length co245))) ?hg ?ho ?hn ?hr ?_; (case ho => rfl); (case hg => rfl); (case hn => rfl); (case hr => first | (go_simp; done) | (go_simp; rfl)); intro w246 hw; replace HO_297002 : Aside0 (Kd.V (Kd.int .i64) 3 w246 w.heap.size (fun k_ => k_ ≠ gb277 ∧ k_ ≠ gb278 ∧ k_ ≠ gb279 ∧ k_ ≠ gb296 ∧ k_ ≠ gb297 ∧ k_ ≠ gb332 ∧ k_ ≠ gb333 ∧ k_ ≠ gb346 ∧ k_ ≠ gb347) (.slice Ao81 t286.length co81) t286) := ⟨(by rw [hw]; exact (by (with_reducible repeat (first | apply Kd.V_alloc | apply Kd.V_drewN | apply Kd.V_drew)); exact Kd.V_mono (Kd.V_far (p := ⟨gb346, 3, none⟩) (Kd.V_far (p := ⟨gb346, 2, none⟩) (Kd.V_far (p := ⟨gb346, 1, none⟩) (Kd.V_far (p := ⟨gb346, 0, none⟩) (Kd.V_mono HO_297002.out (fun k_ hk => (⟨hk, hk.1.2⟩ : _ ∧ k_ ≠ gb346))) (fun _ hk => hk.2) (.int .i64 t334)) (fun _ hk => hk.2) (.int .i64 t335)) (fun _ hk => hk.2) (.slice Ao244 t336.length co244)) (fun _ hk => hk.2) (.slice Ao245 t339.length co245)) (fun _ hk => ⟨hk.1.1.1.1, ⟨hk.1.1.1.2.1, ⟨hk.1.1.1.2.2.1, ⟨hk.1.1.1.2.2.2.1, ⟨hk.1.1.1.2.2.2.2.1, ⟨hk.1.1.1.2.2.2.2.2.1, ⟨hk.1.1.1.2.2.2.2.2.2, ⟨hk.1.1.2, hk.1.2⟩⟩⟩⟩⟩⟩⟩⟩)))⟩; replace HO_297003 : Aside0 (Kd.V k53 53 w246 w.heap.size (fun k_ => k_ ≠ gb277 ∧ k_ ≠ gb278 ∧ k_ ≠ gb279 ∧ k_ ≠ gb296 ∧ k_ ≠ gb297 ∧ k_ ≠ gb332 ∧ k_ ≠ gb333 ∧ k_ ≠ gb346 ∧ k_ ≠ gb347) (.slice Ao82 t289.length co82) t289) := ⟨(by rw [hw]; exact (by (with_reducible repeat (first | apply Kd.V_alloc | apply Kd.V_drewN | apply Kd.V_drew)); exact Kd.V_mono (Kd.V_far (p := ⟨gb346, 3, none⟩) (Kd.V_far (p := ⟨gb346, 2, none⟩) (Kd.V_far (p := ⟨gb346, 1, none⟩) (Kd.V_far (p := ⟨gb346, 0, none⟩) (Kd.V_mono HO_297003.out (fun k_ hk => (⟨hk, hk.1.2⟩ : _ ∧ k_ ≠ gb346))) (fun _ hk => hk.2) (.int .i64 t334)) (fun _ hk => hk.2) (.int .i64 t335)) (fun _ hk => hk.2) (.slice Ao244 t336.length co244)) (fun _ hk => hk.2) (.slice Ao245 t339.length co245)) (fun _ hk => ⟨hk.1.1.1.1, ⟨hk.1.1.1.2.1, ⟨hk.1.1.1.2.2.1, ⟨hk.1.1.1.2.2.2.1, ⟨hk.1.1.1.2.2.2.2.1, ⟨hk.1.1.1.2.2.2.2.2.1, ⟨hk.1.1.1.2.2.2.2.2.2, ⟨hk.1.1.2, hk.1.2⟩⟩⟩⟩⟩⟩⟩⟩)))⟩; replace HO324 : Aside0 (Kd.V (Kd.int .i64) 3 w246 w.heap.size (fun k_ => k_ ≠ gb277 ∧ k_ ≠ gb278 ∧ k_ ≠ gb279 ∧ k_ ≠ gb296 ∧ k_ ≠ gb297 ∧ k_ ≠ gb332 ∧ k_ ≠ gb333 ∧ k_ ≠ gb346 ∧ k_ ≠ gb347) (.slice Ao219 t322.length co219) t322) := ⟨(by rw [hw]; exact (by (with_reducible repeat (first | apply Kd.V_alloc | apply Kd.V_drewN | apply Kd.V_drew)); exact Kd.V_mono (Kd.V_far (p := ⟨gb346, 3, none⟩) (Kd.V_far (p := ⟨gb346, 2, none⟩) (Kd.V_far (p := ⟨gb346, 1, none⟩) (Kd.V_far (p := ⟨gb346, 0, none⟩) (Kd.V_mono HO324.out (fun k_ hk => (⟨hk, hk.1.2⟩ : _ ∧ k_ ≠ gb346))) (fun _ hk => hk.2) (.int .i64 t334)) (fun _ hk => hk.2) (.int .i64 t335)) (fun _ hk => hk.2) (.slice Ao244 t336.length co244)) (fun _ hk => hk.2) (.slice Ao245 t339.length co245)) (fun _ hk => ⟨hk.1.1.1.1, ⟨hk.1.1.1.2.1, ⟨hk.1.1.1.2.2.1, ⟨hk.1.1.1.2.2.2.1, ⟨hk.1.1.1.2.2.2.2.1, ⟨hk.1.1.1.2.2.2.2.2.1, ⟨hk.1.1.1.2.2.2.2.2.2, ⟨hk.1.1.2, hk.1.2⟩⟩⟩⟩⟩⟩⟩⟩)))⟩; replace HO327 : Aside0 (Kd.V k53 53 w246 w.heap.size (fun k_ => k_ ≠ gb277 ∧ k_ ≠ gb278 ∧ k_ ≠ gb279 ∧ k_ ≠ gb296 ∧ k_ ≠ gb297 ∧ k_ ≠ gb332 ∧ k_ ≠ gb333 ∧ k_ ≠ gb346 ∧ k_ ≠ gb347) (.slice Ao220 t325.length co220) t325) := ⟨(by rw [hw]; exact (by (with_reducible repeat (first | apply Kd.V_alloc | apply Kd.V_drewN | apply Kd.V_drew)); exact Kd.V_mono (Kd.V_far (p := ⟨gb346, 3, none⟩) (Kd.V_far (p := ⟨gb346, 2, none⟩) (Kd.V_far (p := ⟨gb346, 1, none⟩) (Kd.V_far (p := ⟨gb346, 0, none⟩) (Kd.V_mono HO327.out (fun k_ hk => (⟨hk, hk.1.2⟩ : _ ∧ k_ ≠ gb346))) (fun _ hk => hk.2) (.int .i64 t334)) (fun _ hk => hk.2) (.int .i64 t335)) (fun _ hk => hk.2) (.slice Ao244 t336.length co244)) (fun _ hk => hk.2) (.slice Ao245 t339.length co245)) (fun _ hk => ⟨hk.1.1.1.1, ⟨hk.1.1.1.2.1, ⟨hk.1.1.1.2.2.1, ⟨hk.1.1.1.2.2.2.1, ⟨hk.1.1.1.2.2.2.2.1, ⟨hk.1.1.1.2.2.2.2.2.1, ⟨hk.1.1.1.2.2.2.2.2.2, ⟨hk.1.1.2, hk.1.2⟩⟩⟩⟩⟩⟩⟩⟩)))⟩; replace HO338 : Aside0 (Kd.V (Kd.int .i64) 3 w246 w.heap.size (fun k_ => k_ ≠ gb277 ∧ k_ ≠ gb278 ∧ k_ ≠ gb279 ∧ k_ ≠ gb296 ∧ k_ ≠ gb297 ∧ k_ ≠ gb332 ∧ k_ ≠ gb333 ∧ k_ ≠ gb346 ∧ k_ ≠ gb347) (.slice Ao244 t336.length co244) t336) := ⟨(by rw [hw]; exact (by (with_reducible repeat (first | apply Kd.V_alloc | apply Kd.V_drewN | apply Kd.V_drew)); exact Kd.V_mono (Kd.V_far (p := ⟨gb346, 3, none⟩) (Kd.V_far (p := ⟨gb346, 2, none⟩) (Kd.V_far (p := ⟨gb346, 1, none⟩) (Kd.V_far (p := ⟨gb346, 0, none⟩) (Kd.V_mono HO338.out (fun k_ hk => (⟨hk, hk.1.2⟩ : _ ∧ k_ ≠ gb346))) (fun _ hk => hk.2) (.int .i64 t334)) (fun _ hk => hk.2) (.int .i64 t335)) (fun _ hk => hk.2) (.slice Ao244 t336.length co244)) (fun _ hk => hk.2) (.slice Ao245 t339.length co245)) (fun _ hk => ⟨hk.1.1.1.1, ⟨hk.1.1.1.2.1, ⟨hk.1.1.1.2.2.1, ⟨hk.1.1.1.2.2.2.1, ⟨hk.1.1.1.2.2.2.2.1, ⟨hk.1.1.1.2.2.2.2.2.1, ⟨hk.1.1.1.2.2.2.2.2.2, ⟨hk.1.1.2, hk.1.2⟩⟩⟩⟩⟩⟩⟩⟩)))⟩; replace HO341 : Aside0 (Kd.V k53 53 w246 w.heap.size (fun k_ => k_ ≠ gb277 ∧ k_ ≠ gb278 ∧ k_ ≠ gb279 ∧ k_ ≠ gb296 ∧ k_ ≠ gb297 ∧ k_ ≠ gb332 ∧ k_ ≠ gb333 ∧ k_ ≠ gb346 ∧ k_ ≠ gb347) (.slice Ao245 t339.length co245) t339) := ⟨(by rw [hw]; exact (by (with_reducible repeat (first | apply Kd.V_alloc | apply Kd.V_drewN | apply Kd.V_drew)); exact Kd.V_mono (Kd.V_far (p := ⟨gb346, 3, none⟩) (Kd.V_far (p := ⟨gb346, 2, none⟩) (Kd.V_far (p := ⟨gb346, 1, none⟩) (Kd.V_far (p := ⟨gb346, 0, none⟩) (Kd.V_mono HO341.out (fun k_ hk => (⟨hk, hk.1.2⟩ : _ ∧ k_ ≠ gb346))) (fun _ hk => hk.2) (.int .i64 t334)) (fun _ hk => hk.2) (.int .i64 t335)) (fun _ hk => hk.2) (.slice Ao244 t336.length co244)) (fun _ hk => hk.2) (.slice Ao245 t339.length co245)) (fun _ hk => ⟨hk.1.1.1.1, ⟨hk.1.1.1.2.1, ⟨hk.1.1.1.2.2.1, ⟨hk.1.1.1.2.2.2.1, ⟨hk.1.1.1.2.2.2.2.1, ⟨hk.1.1.1.2.2.2.2.2.1, ⟨hk.1.1.1.2.2.2.2.2.2, ⟨hk.1.1.2, hk.1.2⟩⟩⟩⟩⟩⟩⟩⟩)))⟩; replace BK277 : Aside0 (w246.heap[gb277]? = some (.cells #[.int .i64 a0_0, .int .i64 a0_1, .int .i64 a0_2, .int .i64 a0_3] 23 (0, 0))) := ⟨(by rw [hw]; exact (by (with_reducible repeat (first | refine blk_drewN ?_ _ | refine blk_drew ?_ | refine blk_alloc ?_ _)); refine blk_far ?_ NB277_346.out _; (with_reducible repeat (first | refine blk_drewN ?_ _ | refine blk_drew ?_ | refine blk_alloc ?_ _)); refine blk_far ?_ NB277_346.out _; (with_reducible repeat (first | refine blk_drewN ?_ _ | refine blk_drew ?_ | refine blk_alloc ?_ _)); refine blk_far ?_ NB277_346.out _; (with_reducible repeat (first | refine blk_drewN ?_ _ | refine blk_drew ?_ | refine blk_alloc ?_ _)); refine blk_far ?_ NB277_346.out _; (with_reducible repeat (first | refine blk_drewN ?_ _ | refine blk_drew ?_ | refine blk_alloc ?_ _)); exact BK277.out))⟩; replace BK278 : Aside0 (w246.heap[gb278]? = some (.cells #[.int .i64 a1_0, .int .i64 a1_1, .slice A1_2 l1_2.length c1_2, .slice A1_3 l1_3.length c1_3] 27 (0, 0))) := ⟨(by rw [hw]; exact (by (with_reducible repeat (first | refine blk_drewN ?_ _ | refine blk_drew ?_ | refine blk_alloc ?_ _)); refine blk_far ?_ NB278_346.out _; (with_reducible repeat (first | refine blk_drewN ?_ _ | refine blk_drew ?_ | refine blk_alloc ?_ _)); refine blk_far ?_ NB278_346.out _; (with_reducible repeat (first | refine blk_drewN ?_ _ | refine blk_drew ?_ | refine blk_alloc ?_ _)); refine blk_far ?_ NB278_346.out _; (with_reducible repeat (first | refine blk_drewN ?_ _ | refine blk_drew ?_ | refine blk_alloc ?_ _)); refine blk_far ?_ NB278_346.out _; (with_reducible repeat (first | refine blk_drewN ?_ _ | refine blk_drew ?_ | refine blk_alloc ?_ _)); exact BK278.out))⟩; replace BK279 : Aside0 (w246.heap[gb279]? = some (.cells #[.int .i64 a2_0, .int .i64 a2_1] 28 (0, 0))) := ⟨(by rw [hw]; exact (by (with_reducible repeat (first | refine blk_drewN ?_ _ | refine blk_drew ?_ | refine blk_alloc ?_ _)); refine blk_far ?_ NB279_346.out _; (with_reducible repeat (first | refine blk_drewN ?_ _ | refine blk_drew ?_ | refine blk_alloc ?_ _)); refine blk_far ?_ NB279_346.out _; (with_reducible repeat (first | refine blk_drewN ?_ _ | refine blk_drew ?_ | refine blk_alloc ?_ _)); refine blk_far ?_ NB279_346.out _; (with_reducible repeat (first | refine blk_drewN ?_ _ | refine blk_drew ?_ | refine blk_alloc ?_ _)); refine blk_far ?_ NB279_346.out _; (with_reducible repeat (first | refine blk_drewN ?_ _ | refine blk_drew ?_ | refine blk_alloc ?_ _)); exact BK279.out))⟩; replace BK296 : Aside0 (w246.heap[gb296]? = some (.cells #[.int .i64 t284, .int .i64 t285, .slice Ao81 t286.length co81, .slice Ao82 t289.length co82] 27 (0, 0))) := ⟨(by rw [hw]; exact (by (with_reducible repeat (first | refine blk_drewN ?_ _ | refine blk_drew ?_ | refine blk_alloc ?_ _)); refine blk_far ?_ NB296_346.out _; (with_reducible repeat (first | refine blk_drewN ?_ _ | refine blk_drew ?_ | refine blk_alloc ?_ _)); refine blk_far ?_ NB296_346.out _; (with_reducible repeat (first | refine blk_drewN ?_ _ | refine blk_drew ?_ | refine blk_alloc ?_ _)); refine blk_far ?_ NB296_346.out _; (with_reducible repeat (first | refine blk_drewN ?_ _ | refine blk_drew ?_ | refine blk_alloc ?_ _)); refine blk_far ?_ NB296_346.out _; (with_reducible repeat (first | refine blk_drewN ?_ _ | refine blk_drew ?_ | refine blk_alloc ?_ _)); exact BK296.out))⟩; replace BK297 : Aside0 (w246.heap[gb297]? = some (.cells #[.bool false, .int .i64 t293, .int .i64 t294, .int .i64 t295] 32 (0, 0))) := ⟨(by rw [hw]; exact (by (with_reducible repeat (first | refine blk_drewN ?_ _ | refine blk_drew ?_ | refine blk_alloc ?_ _)); refine blk_far ?_ NB297_346.out _; (with_reducible repeat (first | refine blk_drewN ?_ _ | refine blk_drew ?_ | refine blk_alloc ?_ _)); refine blk_far ?_ NB297_346.out _; (with_reducible repeat (first | refine blk_drewN ?_ _ | refine blk_drew ?_ | refine blk_alloc ?_ _)); refine blk_far ?_ NB297_346.out _; (with_reducible repeat (first | refine blk_drewN ?_ _ | refine blk_drew ?_ | refine blk_alloc ?_ _)); refine blk_far ?_ NB297_346.out _; (with_reducible repeat (first | refine blk_drewN ?_ _ | refine blk_drew ?_ | refine blk_alloc ?_ _)); exact BK297.out))⟩; replace BK332 : Aside0 (w246.heap[gb332]? = some (.cells #[.int .i64 t320, .int .i64 t321, .slice Ao219 t322.length co219, .slice Ao220 t325.length co220] 27 (0, 0))) := ⟨(by rw [hw]; exact (by (with_reducible repeat (first | refine blk_drewN ?_ _ | refine blk_drew ?_ | refine blk_alloc ?_ _)); refine blk_far ?_ NB332_346.out _; (with_reducible repeat (first | refine blk_drewN ?_ _ | refine blk_drew ?_ | refine blk_alloc ?_ _)); refine blk_far ?_ NB332_346.out _; (with_reducible repeat (first | refine blk_drewN ?_ _ | refine blk_drew ?_ | refine blk_alloc ?_ _)); refine blk_far ?_ NB332_346.out _; (with_reducible repeat (first | refine blk_drewN ?_ _ | refine blk_drew ?_ | refine blk_alloc ?_ _)); refine blk_far ?_ NB332_346.out _; (with_reducible repeat (first | refine blk_drewN ?_ _ | refine blk_drew ?_ | refine blk_alloc ?_ _)); exact BK332.out))⟩; replace BK333 : Aside0 (w246.heap[gb333]? = some (.cells #[.bool true, .int .i64 t329, .int .i64 t330, .int .i64 t331] 32 (0, 0))) := ⟨(by rw [hw]; exact (by (with_reducible repeat (first | refine blk_drewN ?_ _ | refine blk_drew ?_ | refine blk_alloc ?_ _)); refine blk_far ?_ NB333_346.out _; (with_reducible repeat (first | refine blk_drewN ?_ _ | refine blk_drew ?_ | refine blk_alloc ?_ _)); refine blk_far ?_ NB333_346.out _; (with_reducible repeat (first | refine blk_drewN ?_ _ | refine blk_drew ?_ | refine blk_alloc ?_ _)); refine blk_far ?_ NB333_346.out _; (with_reducible repeat (first | refine blk_drewN ?_ _ | refine blk_drew ?_ | refine blk_alloc ?_ _)); refine blk_far ?_ NB333_346.out _; (with_reducible repeat (first | refine blk_drewN ?_ _ | refine blk_drew ?_ | refine blk_alloc ?_ _)); exact BK333.out))⟩; replace BK346 : Aside0 (w246.heap[gb346]? = some (.cells #[.int .i64 t334, .int .i64 t335, .slice Ao244 t336.length co244, .slice Ao245 t339.length co245] 27 (0, 0))) := ⟨(by rw [hw]; exact (by (with_reducible repeat (first | refine blk_drewN ?_ _ | refine blk_drew ?_ | refine blk_alloc ?_ _)); refine blk_put (cs := #[.int .i64 t334, .int .i64 t335, .slice Ao244 t336.length co244, .slice none 0 0]) ?_ 3 _ rfl; (with_reducible repeat (first | refine blk_drewN ?_ _ | refine blk_drew ?_ | refine blk_alloc ?_ _)); refine blk_put (cs := #[.int .i64 t334, .int .i64 t335, .slice none 0 0, .slice none 0 0]) ?_ 2 _ rfl; (with_reducible repeat (first | refine blk_drewN ?_ _ | refine blk_drew ?_ | refine blk_alloc ?_ _)); refine blk_put (cs := #[.int .i64 t334, .int .i64 0, .slice none 0 0, .slice none 0 0]) ?_ 1 _ rfl; (with_reducible repeat (first | refine blk_drewN ?_ _ | refine blk_drew ?_ | refine blk_alloc ?_ _)); refine blk_put (cs := #[.int .i64 0, .int .i64 0, .slice none 0 0, .slice none 0 0]) ?_ 0 _ rfl; (with_reducible repeat (first | refine blk_drewN ?_ _ | refine blk_drew ?_ | refine blk_alloc ?_ _)); exact BK346.out))⟩; replace BK347 : Aside0 (w246.heap[gb347]? = some (.cells #[.bool false, .int .i64 0, .int .i64 0, .int .i64 0] 32 (0, 0))) := ⟨(by rw [hw]; exact (by (with_reducible repeat (first | refine blk_drewN ?_ _ | refine blk_drew ?_ | refine blk_alloc ?_ _)); refine blk_far ?_ NB347_346.out _; (with_reducible repeat (first | refine blk_drewN ?_ _ | refine blk_drew ?_ | refine blk_alloc ?_ _)); refine blk_far ?_ NB347_346.out _; (with_reducible repeat (first | refine blk_drewN ?_ _ | refine blk_drew ?_ | refine blk_alloc ?_ _)); refine blk_far ?_ NB347_346.out _; (with_reducible repeat (first | refine blk_drewN ?_ _ | refine blk_drew ?_ | refine blk_alloc ?_ _)); refine blk_far ?_ NB347_346.out _; (with_reducible repeat (first | refine blk_drewN ?_ _ | refine blk_drew ?_ | refine blk_alloc ?_ _)); exact BK347.out))⟩; replace HB : Aside0 (Below w.heap.size w w246) := ⟨(by rw [hw]; exact (bl HB))⟩; clear hw; have hnb247 := NB347_277.out; have hnc247 := NB277_347.out; have hnb248 := NB347_278.out; have hnc248 := NB278_347.out; have hnb249 := NB347_279.out; have hnc249 := NB279_347.out; have hnb250 := NB347_296.out; have hnc250 := NB296_347.out; have hnb251 := NB347_297.out; have hnc251 := NB297_347.out; have hnb252 := NB347_332.out; have hnc252 := NB332_347.out; have hnb253 := NB347_333.out; have hnc253 := NB333_347.out; obtain ⟨hcz254_0, hcz254_1, hcz254_2, hcz254_3⟩ := ce4 BK347; obtain ⟨hfz254_0, hfz254_1, hfz254_2, hfz254_3⟩ := fr4 BK347) | ((with_reducible refine gate_store (t := 32) (p := 16) rfl ?_); refine store_event (t := 32) (p := 16) (v := ?vo_w255) (w1 := ((((w246.setCell ⟨gb347, 0, none⟩ (.bool false)).setCell ⟨gb347, 1, none⟩ (.int .i64 t343)).setCell ⟨gb347, 2, none⟩ (.int .i64 t344)).setCell ⟨gb347, 3, none⟩ (.int .i64 t345))) ?hg ?ho ?hn ?hr ?_; (case ho => rfl); (case hg => rfl); (case hn => rfl); (case hr => first | (go_simp; done) | (go_simp; rfl)); intro w255 hw; replace HO_297002 : Aside0 (Kd.V (Kd.int .i64) 3 w255 w.heap.size (fun k_ => k_ ≠ gb277 ∧ k_ ≠ gb278 ∧ k_ ≠ gb279 ∧ k_ ≠ gb296 ∧ k_ ≠ gb297 ∧ k_ ≠ gb332 ∧ k_ ≠ gb333 ∧ k_ ≠ gb346 ∧ k_ ≠ gb347) (.slice Ao81 t286.length co81) t286) := ⟨(by rw [hw]; exact (by (with_reducible repeat (first | apply Kd.V_alloc | apply Kd.V_drewN | apply Kd.V_drew)); exact Kd.V_mono (Kd.V_far (p := ⟨gb347, 3, none⟩) (Kd.V_far (p := ⟨gb347, 2, none⟩) (Kd.V_far (p := ⟨gb347, 1, none⟩) (Kd.V_far (p := ⟨gb347, 0, none⟩) (Kd.V_mono HO_297002.out (fun k_ hk => (⟨hk, hk.2.2.2.2.2.2.2.2⟩ : _ ∧ k_ ≠ gb347))) (fun _ hk => hk.2) (.bool false)) (fun _ hk => hk.2) (.int .i64 t343)) (fun _ hk => hk.2) (.int .i64 t344)) (fun _ hk => hk.2) (.int .i64 t345)) (fun _ hk => ⟨hk.1.1, ⟨hk.1.2.1, ⟨hk.1.2.2.1, ⟨hk.1.2.2.2.1, ⟨hk.1.2.2.2.2.1, ⟨hk.1.2.2.2.2.2.1, ⟨hk.1.2.2.2.2.2.2.1, ⟨hk.1.2.2.2.2.2.2.2.1, hk.1.2.2.2.2.2.2.2.2⟩⟩⟩⟩⟩⟩⟩⟩)))⟩; replace HO_297003 : Aside0 (Kd.V k53 53 w255 w.heap.size (fun k_ => k_ ≠ gb277 ∧ k_ ≠ gb278 ∧ k_ ≠ gb279 ∧ k_ ≠ gb296 ∧ k_ ≠ gb297 ∧ k_ ≠ gb332 ∧ k_ ≠ gb333 ∧ k_ ≠ gb346 ∧ k_ ≠ gb347) (.slice Ao82 t289.length co82) t289) := ⟨(by rw [hw]; exact (by (with_reducible repeat (first | apply Kd.V_alloc | apply Kd.V_drewN | apply Kd.V_drew)); exact Kd.V_mono (Kd.V_far (p := ⟨gb347, 3, none⟩) (Kd.V_far (p := ⟨gb347, 2, none⟩) (Kd.V_far (p := ⟨gb347, 1, none⟩) (Kd.V_far (p := ⟨gb347, 0, none⟩) (Kd.V_mono HO_297003.out (fun k_ hk => (⟨hk, hk.2.2.2.2.2.2.2.2⟩ : _ ∧ k_ ≠ gb347))) (fun _ hk => hk.2) (.bool false)) (fun _ hk => hk.2) (.int .i64 t343)) (fun _ hk => hk.2) (.int .i64 t344)) (fun _ hk => hk.2) (.int .i64 t345)) (fun _ hk => ⟨hk.1.1, ⟨hk.1.2.1, ⟨hk.1.2.2.1, ⟨hk.1.2.2.2.1, ⟨hk.1.2.2.2.2.1, ⟨hk.1.2.2.2.2.2.1, ⟨hk.1.2.2.2.2.2.2.1, ⟨hk.1.2.2.2.2.2.2.2.1, hk.1.2.2.2.2.2.2.2.2⟩⟩⟩⟩⟩⟩⟩⟩)))⟩; replace HO324 : Aside0 (Kd.V (Kd.int .i64) 3 w255 w.heap.size (fun k_ => k_ ≠ gb277 ∧ k_ ≠ gb278 ∧ k_ ≠ gb279 ∧ k_ ≠ gb296 ∧ k_ ≠ gb297 ∧ k_ ≠ gb332 ∧ k_ ≠ gb333 ∧ k_ ≠ gb346 ∧ k_ ≠ gb347) (.slice Ao219 t322.length co219) t322) := ⟨(by rw [hw]; exact (by (with_reducible repeat (first | apply Kd.V_alloc | apply Kd.V_drewN | apply Kd.V_drew)); exact Kd.V_mono (Kd.V_far (p := ⟨gb347, 3, none⟩) (Kd.V_far (p := ⟨gb347, 2, none⟩) (Kd.V_far (p := ⟨gb347, 1, none⟩) (Kd.V_far (p := ⟨gb347, 0, none⟩) (Kd.V_mono HO324.out (fun k_ hk => (⟨hk, hk.2.2.2.2.2.2.2.2⟩ : _ ∧ k_ ≠ gb347))) (fun _ hk => hk.2) (.bool false)) (fun _ hk => hk.2) (.int .i64 t343)) (fun _ hk => hk.2) (.int .i64 t344)) (fun _ hk => hk.2) (.int .i64 t345)) (fun _ hk => ⟨hk.1.1, ⟨hk.1.2.1, ⟨hk.1.2.2.1, ⟨hk.1.2.2.2.1, ⟨hk.1.2.2.2.2.1, ⟨hk.1.2.2.2.2.2.1, ⟨hk.1.2.2.2.2.2.2.1, ⟨hk.1.2.2.2.2.2.2.2.1, hk.1.2.2.2.2.2.2.2.2⟩⟩⟩⟩⟩⟩⟩⟩)))⟩; replace HO327 : Aside0 (Kd.V k53 53 w255 w.heap.size (fun k_ => k_ ≠ gb277 ∧ k_ ≠ gb278 ∧ k_ ≠ gb279 ∧ k_ ≠ gb296 ∧ k_ ≠ gb297 ∧ k_ ≠ gb332 ∧ k_ ≠ gb333 ∧ k_ ≠ gb346 ∧ k_ ≠ gb347) (.slice Ao220 t325.length co220) t325) := ⟨(by rw [hw]; exact (by (with_reducible repeat (first | apply Kd.V_alloc | apply Kd.V_drewN | apply Kd.V_drew)); exact Kd.V_mono (Kd.V_far (p := ⟨gb347, 3, none⟩) (Kd.V_far (p := ⟨gb347, 2, none⟩) (Kd.V_far (p := ⟨gb347, 1, none⟩) (Kd.V_far (p := ⟨gb347, 0, none⟩) (Kd.V_mono HO327.out (fun k_ hk => (⟨hk, hk.2.2.2.2.2.2.2.2⟩ : _ ∧ k_ ≠ gb347))) (fun _ hk => hk.2) (.bool false)) (fun _ hk => hk.2) (.int .i64 t343)) (fun _ hk => hk.2) (.int .i64 t344)) (fun _ hk => hk.2) (.int .i64 t345)) (fun _ hk => ⟨hk.1.1, ⟨hk.1.2.1, ⟨hk.1.2.2.1, ⟨hk.1.2.2.2.1, ⟨hk.1.2.2.2.2.1, ⟨hk.1.2.2.2.2.2.1, ⟨hk.1.2.2.2.2.2.2.1, ⟨hk.1.2.2.2.2.2.2.2.1, hk.1.2.2.2.2.2.2.2.2⟩⟩⟩⟩⟩⟩⟩⟩)))⟩; replace HO338 : Aside0 (Kd.V (Kd.int .i64) 3 w255 w.heap.size (fun k_ => k_ ≠ gb277 ∧ k_ ≠ gb278 ∧ k_ ≠ gb279 ∧ k_ ≠ gb296 ∧ k_ ≠ gb297 ∧ k_ ≠ gb332 ∧ k_ ≠ gb333 ∧ k_ ≠ gb346 ∧ k_ ≠ gb347) (.slice Ao244 t336.length co244) t336) := ⟨(by rw [hw]; exact (by (with_reducible repeat (first | apply Kd.V_alloc | apply Kd.V_drewN | apply Kd.V_drew)); exact Kd.V_mono (Kd.V_far (p := ⟨gb347, 3, none⟩) (Kd.V_far (p := ⟨gb347, 2, none⟩) (Kd.V_far (p := ⟨gb347, 1, none⟩) (Kd.V_far (p := ⟨gb347, 0, none⟩) (Kd.V_mono HO338.out (fun k_ hk => (⟨hk, hk.2.2.2.2.2.2.2.2⟩ : _ ∧ k_ ≠ gb347))) (fun _ hk => hk.2) (.bool false)) (fun _ hk => hk.2) (.int .i64 t343)) (fun _ hk => hk.2) (.int .i64 t344)) (fun _ hk => hk.2) (.int .i64 t345)) (fun _ hk => ⟨hk.1.1, ⟨hk.1.2.1, ⟨hk.1.2.2.1, ⟨hk.1.2.2.2.1, ⟨hk.1.2.2.2.2.1, ⟨hk.1.2.2.2.2.2.1, ⟨hk.1.2.2.2.2.2.2.1, ⟨hk.1.2.2.2.2.2.2.2.1, hk.1.2.2.2.2.2.2.2.2⟩⟩⟩⟩⟩⟩⟩⟩)))⟩; replace HO341 : Aside0 (Kd.V k53 53 w255 w.heap.size (fun k_ => k_ ≠ gb277 ∧ k_ ≠ gb278 ∧ k_ ≠ gb279 ∧ k_ ≠ gb296 ∧ k_ ≠ gb297 ∧ k_ ≠ gb332 ∧ k_ ≠ gb333 ∧ k_ ≠ gb346 ∧ k_ ≠ gb347) (.slice Ao245 t339.length co245) t339) := ⟨(by rw [hw]; exact (by (with_reducible repeat (first | apply Kd.V_alloc | apply Kd.V_drewN | apply Kd.V_drew)); exact Kd.V_mono (Kd.V_far (p := ⟨gb347, 3, none⟩) (Kd.V_far (p := ⟨gb347, 2, none⟩) (Kd.V_far (p := ⟨gb347, 1, none⟩) (Kd.V_far (p := ⟨gb347, 0, none⟩) (Kd.V_mono HO341.out (fun k_ hk => (⟨hk, hk.2.2.2.2.2.2.2.2⟩ : _ ∧ k_ ≠ gb347))) (fun _ hk => hk.2) (.bool false)) (fun _ hk => hk.2) (.int .i64 t343)) (fun _ hk => hk.2) (.int .i64 t344)) (fun _ hk => hk.2) (.int .i64 t345)) (fun _ hk => ⟨hk.1.1, ⟨hk.1.2.1, ⟨hk.1.2.2.1, ⟨hk.1.2.2.2.1, ⟨hk.1.2.2.2.2.1, ⟨hk.1.2.2.2.2.2.1, ⟨hk.1.2.2.2.2.2.2.1, ⟨hk.1.2.2.2.2.2.2.2.1, hk.1.2.2.2.2.2.2.2.2⟩⟩⟩⟩⟩⟩⟩⟩)))⟩; replace BK277 : Aside0 (w255.heap[gb277]? = some (.cells #[.int .i64 a0_0, .int .i64 a0_1, .int .i64 a0_2, .int .i64 a0_3] 23 (0, 0))) := ⟨(by rw [hw]; exact (by (with_reducible repeat (first | refine blk_drewN ?_ _ | refine blk_drew ?_ | refine blk_alloc ?_ _)); refine blk_far ?_ NB277_347.out _; (with_reducible repeat (first | refine blk_drewN ?_ _ | refine blk_drew ?_ | refine blk_alloc ?_ _)); refine blk_far ?_ NB277_347.out _; (with_reducible repeat (first | refine blk_drewN ?_ _ | refine blk_drew ?_ | refine blk_alloc ?_ _)); refine blk_far ?_ NB277_347.out _; (with_reducible repeat (first | refine blk_drewN ?_ _ | refine blk_drew ?_ | refine blk_alloc ?_ _)); refine blk_far ?_ NB277_347.out _; (with_reducible repeat (first | refine blk_drewN ?_ _ | refine blk_drew ?_ | refine blk_alloc ?_ _)); exact BK277.out))⟩; replace BK278 : Aside0 (w255.heap[gb278]? = some (.cells #[.int .i64 a1_0, .int .i64 a1_1, .slice A1_2 l1_2.length c1_2, .slice A1_3 l1_3.length c1_3] 27 (0, 0))) := ⟨(by rw [hw]; exact (by (with_reducible repeat (first | refine blk_drewN ?_ _ | refine blk_drew ?_ | refine blk_alloc ?_ _)); refine blk_far ?_ NB278_347.out _; (with_reducible repeat (first | refine blk_drewN ?_ _ | refine blk_drew ?_ | refine blk_alloc ?_ _)); refine blk_far ?_ NB278_347.out _; (with_reducible repeat (first | refine blk_drewN ?_ _ | refine blk_drew ?_ | refine blk_alloc ?_ _)); refine blk_far ?_ NB278_347.out _; (with_reducible repeat (first | refine blk_drewN ?_ _ | refine blk_drew ?_ | refine blk_alloc ?_ _)); refine blk_far ?_ NB278_347.out _; (with_reducible repeat (first | refine blk_drewN ?_ _ | refine blk_drew ?_ | refine blk_alloc ?_ _)); exact BK278.out))⟩; replace BK279 : Aside0 (w255.heap[gb279]? = some (.cells #[.int .i64 a2_0, .int .i64 a2_1] 28 (0, 0))) := ⟨(by rw [hw]; exact (by (with_reducible repeat (first | refine blk_drewN ?_ _ | refine blk_drew ?_ | refine blk_alloc ?_ _)); refine blk_far ?_ NB279_347.out _; (with_reducible repeat (first | refine blk_drewN ?_ _ | refine blk_drew ?_ | refine blk_alloc ?_ _)); refine blk_far ?_ NB279_347.out _; (with_reducible repeat (first | refine blk_drewN ?_ _ | refine blk_drew ?_ | refine blk_alloc ?_ _)); refine blk_far ?_ NB279_347.out _; (with_reducible repeat (first | refine blk_drewN ?_ _ | refine blk_drew ?_ | refine blk_alloc ?_ _)); refine blk_far ?_ NB279_347.out _; (with_reducible repeat (first | refine blk_drewN ?_ _ | refine blk_drew ?_ | refine blk_alloc ?_ _)); exact BK279.out))⟩; replace BK296 : Aside0 (w255.heap[gb296]? = some (.cells #[.int .i64 t284, .int .i64 t285, .slice Ao81 t286.length co81, .slice Ao82 t289.length co82] 27 (0, 0))) := ⟨(by rw [hw]; exact (by (with_reducible repeat (first | refine blk_drewN ?_ _ | refine blk_drew ?_ | refine blk_alloc ?_ _)); refine blk_far ?_ NB296_347.out _; (with_reducible repeat (first | refine blk_drewN ?_ _ | refine blk_drew ?_ | refine blk_alloc ?_ _)); refine blk_far ?_ NB296_347.out _; (with_reducible repeat (first | refine blk_drewN ?_ _ | refine blk_drew ?_ | refine blk_alloc ?_ _)); refine blk_far ?_ NB296_347.out _; (with_reducible repeat (first | refine blk_drewN ?_ _ | refine blk_drew ?_ | refine blk_alloc ?_ _)); refine blk_far ?_ NB296_347.out _; (with_reducible repeat (first | refine blk_drewN ?_ _ | refine blk_drew ?_ | refine blk_alloc ?_ _)); exact BK296.out))⟩; replace BK297 : Aside0 (w255.heap[gb297]? = some (.cells #[.bool false, .int .i64 t293, .int .i64 t294, .int .i64 t295] 32 (0, 0))) := ⟨(by rw [hw]; exact (by (with_reducible repeat (first | refine blk_drewN ?_ _ | refine blk_drew ?_ | refine blk_alloc ?_ _)); refine blk_far ?_ NB297_347.out _; (with_reducible repeat (first | refine blk_drewN ?_ _ | refine blk_drew ?_ | refine blk_alloc ?_ _)); refine blk_far ?_ NB297_347.out _; (with_reducible repeat (first | refine blk_drewN ?_ _ | refine blk_drew ?_ | refine blk_alloc ?_ _)); refine blk_far ?_ NB297_347.out _; (with_reducible repeat (first | refine blk_drewN ?_ _ | refine blk_drew ?_ | refine blk_alloc ?_ _)); refine blk_far ?_ NB297_347.out _; (with_reducible repeat (first | refine blk_drewN ?_ _ | refine blk_drew ?_ | refine blk_alloc ?_ _)); exact BK297.out))⟩; replace BK332 : Aside0 (w255.heap[gb332]? = some (.cells #[.int .i64 t320, .int .i64 t321, .slice Ao219 t322.length co219, .slice Ao220 t325.length co220] 27 (0, 0))) := ⟨(by rw [hw]; exact (by (with_reducible repeat (first | refine blk_drewN ?_ _ | refine blk_drew ?_ | refine blk_alloc ?_ _)); refine blk_far ?_ NB332_347.out _; (with_reducible repeat (first | refine blk_drewN ?_ _ | refine blk_drew ?_ | refine blk_alloc ?_ _)); refine blk_far ?_ NB332_347.out _; (with_reducible repeat (first | refine blk_drewN ?_ _ | refine blk_drew ?_ | refine blk_alloc ?_ _)); refine blk_far ?_ NB332_347.out _; (with_reducible repeat (first | refine blk_drewN ?_ _ | refine blk_drew ?_ | refine blk_alloc ?_ _)); refine blk_far ?_ NB332_347.out _; (with_reducible repeat (first | refine blk_drewN ?_ _ | refine blk_drew ?_ | refine blk_alloc ?_ _)); exact BK332.out))⟩; replace BK333 : Aside0 (w255.heap[gb333]? = some (.cells #[.bool true, .int .i64 t329, .int .i64 t330, .int .i64 t331] 32 (0, 0))) := ⟨(by rw [hw]; exact (by (with_reducible repeat (first | refine blk_drewN ?_ _ | refine blk_drew ?_ | refine blk_alloc ?_ _)); refine blk_far ?_ NB333_347.out _; (with_reducible repeat (first | refine blk_drewN ?_ _ | refine blk_drew ?_ | refine blk_alloc ?_ _)); refine blk_far ?_ NB333_347.out _; (with_reducible repeat (first | refine blk_drewN ?_ _ | refine blk_drew ?_ | refine blk_alloc ?_ _)); refine blk_far ?_ NB333_347.out _; (with_reducible repeat (first | refine blk_drewN ?_ _ | refine blk_drew ?_ | refine blk_alloc ?_ _)); refine blk_far ?_ NB333_347.out _; (with_reducible repeat (first | refine blk_drewN ?_ _ | refine blk_drew ?_ | refine blk_alloc ?_ _)); exact BK333.out))⟩; replace BK346 : Aside0 (w255.heap[gb346]? = some (.cells #[.int .i64 t334, .int .i64 t335, .slice Ao244 t336.length co244, .slice Ao245 t339.length co245] 27 (0, 0))) := ⟨(by rw [hw]; exact (by (with_reducible repeat (first | refine blk_drewN ?_ _ | refine blk_drew ?_ | refine blk_alloc ?_ _)); refine blk_far ?_ NB346_347.out _; (with_reducible repeat (first | refine blk_drewN ?_ _ | refine blk_drew ?_ | refine blk_alloc ?_ _)); refine blk_far ?_ NB346_347.out _; (with_reducible repeat (first | refine blk_drewN ?_ _ | refine blk_drew ?_ | refine blk_alloc ?_ _)); refine blk_far ?_ NB346_347.out _; (with_reducible repeat (first | refine blk_drewN ?_ _ | refine blk_drew ?_ | refine blk_alloc ?_ _)); refine blk_far ?_ NB346_347.out _; (with_reducible repeat (first | refine blk_drewN ?_ _ | refine blk_drew ?_ | refine blk_alloc ?_ _)); exact BK346.out))⟩; replace BK347 : Aside0 (w255.heap[gb347]? = some (.cells #[.bool false, .int .i64 t343, .int .i64 t344, .int .i64 t345] 32 (0, 0))) := ⟨(by rw [hw]; exact (by (with_reducible repeat (first | refine blk_drewN ?_ _ | refine blk_drew ?_ | refine blk_alloc ?_ _)); refine blk_put (cs := #[.bool false, .int .i64 t343, .int .i64 t344, .int .i64 0]) ?_ 3 _ rfl; (with_reducible repeat (first | refine blk_drewN ?_ _ | refine blk_drew ?_ | refine blk_alloc ?_ _)); refine blk_put (cs := #[.bool false, .int .i64 t343, .int .i64 0, .int .i64 0]) ?_ 2 _ rfl; (with_reducible repeat (first | refine blk_drewN ?_ _ | refine blk_drew ?_ | refine blk_alloc ?_ _)); refine blk_put (cs := #[.bool false, .int .i64 0, .int .i64 0, .int .i64 0]) ?_ 1 _ rfl; (with_reducible repeat (first | refine blk_drewN ?_ _ | refine blk_drew ?_ | refine blk_alloc ?_ _)); refine blk_put (cs := #[.bool false, .int .i64 0, .int .i64 0, .int .i64 0]) ?_ 0 _ rfl; (with_reducible repeat (first | refine blk_drewN ?_ _ | refine blk_drew ?_ | refine blk_alloc ?_ _)); exact BK347.out))⟩; replace HB : Aside0 (Below w.heap.size w w255) := ⟨(by rw [hw]; exact (bl HB))⟩; clear hw; obtain ⟨hcz256_0, hcz256_1, hcz256_2, hcz256_3⟩ := ce4 BK297; obtain ⟨hfz256_0, hfz256_1, hfz256_2, hfz256_3⟩ := fr4 BK297; obtain ⟨hcz257_0, hcz257_1, hcz257_2, hcz257_3⟩ := ce4 BK333; obtain ⟨hfz257_0, hfz257_1, hfz257_2, hfz257_3⟩ := fr4 BK333; obtain ⟨hcz258_0, hcz258_1, hcz258_2, hcz258_3⟩ := ce4 BK347; obtain ⟨hfz258_0, hfz258_1, hfz258_2, hfz258_3⟩ := fr4 BK347) | (go_at_call 9; (with_reducible refine (sandglasslaw11_live.calls kj147  t348 _ A196.out).mono ?_); rintro e w259 ⟨rfl, hb⟩; replace HO_297002 := vb HO_297002 hb; replace HO_297003 := vb HO_297003 hb; replace HO324 := vb HO324 hb; replace HO327 := vb HO327 hb; replace HO338 := vb HO338 hb; replace HO341 := vb HO341 hb; replace BK277 := Aside0.mk (blk_below (bo BK277) hb); replace BK278 := Aside0.mk (blk_below (bo BK278) hb); replace BK279 := Aside0.mk (blk_below (bo BK279) hb); replace BK296 := Aside0.mk (blk_below (bo BK296) hb); replace BK297 := Aside0.mk (blk_below (bo BK297) hb); replace BK332 := Aside0.mk (blk_below (bo BK332) hb); replace BK333 := Aside0.mk (blk_below (bo BK333) hb); replace BK346 := Aside0.mk (blk_below (bo BK346) hb); replace BK347 := Aside0.mk (blk_below (bo BK347) hb); replace HB := Aside0.mk (below_step (bl HB) hb); (try clear hb); (try clear hb2); (try clear hk); (try clear hi)))
                                  go_ret
                                  exact ⟨by first | (with_reducible rfl) | rfl | (simp [errW_none, errW_some] <;> rfl) | (simp [*, errW_none, errW_some] <;> rfl), bl HB⟩
                              · replace c194 := Bool.eq_false_iff.mpr c194
                                subst c194
                                rw [if_neg (show ¬ (false = true) by decide)] at H
                                exact absurd H (by simp)
                            · rw [if_neg c193] at H
                              exact absurd H (by simp)

end Go.Proofs.Ytlnadabohaobnaa.Q
