-- Laid by wip/tools/hprint.py, a program of this repo, over the kit's print; not a text of print.sh.
import Derived.Test.YtalcmlgkdkbbaaaQ0
import Derived.Test.YtalcmlgkdkbbaaaQ22
namespace Go.Proofs.Ytalcmlgkdkbbaaa.Q
open Go.RowKit Go.Proofs.Ytalcmlgkdkbbaaa.Zip Go.Proofs.YtalcmlgkdkbbaaaW.PrintWords Go.Proofs.YtalcmlgkdkbbaaaW.PrintLast Go.Proofs.YtalcmlgkdkbbaaaW.PrintMore
attribute [local go_sem] max2_int min2_int max_two min_two max_three min_three max_four min_four   -- for this text's walks alone
set_option linter.unusedVariables false
set_option linter.unusedSimpArgs false

/-! ### sandglassref12_in: function 29 -/
def sandglassref12_in.j0 : Nat → Int → Bool → Int → Int → Int → Int → Int → Int → List Int → List (S54) → Option (Int)
  | 0, _, _, _, _, _, _, _, _, _, _ => none
  | k + 1, x2, x22, x281000, x281001, x281002, x281003, x282000, x282001, x282002, x282003 => if x22 = true then (some 0) else (if x281003 = 0 then (none) else (if 0 ≤ (Int.tmod x2 x281003) then (if (Int.tmod x2 x281003) < (x282002.length : Int) then (some (rd x282002 (Int.tmod x2 x281003))) else (none)) else (none)))
def sandglassref12_in.f (k : Nat) (a0_0 : Int) (a0_1 : Int) (a0_2 : Int) (a0_3 : Int) (a1_0 : Int) (a1_1 : Int) (l1_2 : List Int) (l1_3 : List (S54)) (a2 : Int) : Option (Int) := if a2 < 0 then (sandglassref12_in.j0 k a2 true a0_0 a0_1 a0_2 a0_3 a1_0 a1_1 l1_2 l1_3) else ((sandglassref12_number.f a0_0 a0_1 a0_2 a0_3 a1_0).bind fun t282 => (if a2 > t282 then (sandglassref12_in.j0 k a2 true a0_0 a0_1 a0_2 a0_3 a1_0 a1_1 l1_2 l1_3) else (sandglassref12_in.j0 k a2 ((l1_2.length : Int) == 0) a0_0 a0_1 a0_2 a0_3 a1_0 a1_1 l1_2 l1_3)))
theorem sandglassref12_in.mono_l : ∀ k, (∀ y0 y1 y2 y3 y4 y5 y6 y7 y8 y9, LeO (sandglassref12_in.j0 k y0 y1 y2 y3 y4 y5 y6 y7 y8 y9) (sandglassref12_in.j0 (k + 1) y0 y1 y2 y3 y4 y5 y6 y7 y8 y9))
  | 0 => fun _ _ _ _ _ _ _ _ _ _ r h => by simp [sandglassref12_in.j0] at h
  | k + 1 => by
    have ih0 := sandglassref12_in.mono_l k
    · intro y0 y1 y2 y3 y4 y5 y6 y7 y8 y9
      unfold sandglassref12_in.j0
      repeat' first
      | (with_reducible exact ih0 _ _ _ _ _ _ _ _ _ _)
      | (with_reducible exact LeO.refl _)
      | (with_reducible exact LeO.none _)
      | (with_reducible refine LeO.ite ?_ ?_)
      | (with_reducible refine LeO.bind ?_ (fun _ => ?_))
      | exact ih0 _ _ _ _ _ _ _ _ _ _
      | exact LeO.none _
      | refine LeO.ite ?_ ?_
      | refine LeO.bind ?_ (fun _ => ?_)
theorem sandglassref12_in.mono : ∀ a0 a1 a2 a3 a4 a5 a6 a7 a8 k, LeO (sandglassref12_in.f k a0 a1 a2 a3 a4 a5 a6 a7 a8) (sandglassref12_in.f (k + 1) a0 a1 a2 a3 a4 a5 a6 a7 a8) := by
  intro a0 a1 a2 a3 a4 a5 a6 a7 a8 k
  have ih0 := sandglassref12_in.mono_l k
  unfold sandglassref12_in.f
  repeat' first
      | (with_reducible exact ih0 _ _ _ _ _ _ _ _ _ _)
      | (with_reducible exact LeO.refl _)
      | (with_reducible exact LeO.none _)
      | (with_reducible refine LeO.ite ?_ ?_)
      | (with_reducible refine LeO.bind ?_ (fun _ => ?_))
      | exact ih0 _ _ _ _ _ _ _ _ _ _
      | exact LeO.none _
      | refine LeO.ite ?_ ?_
      | refine LeO.bind ?_ (fun _ => ?_)
set_option maxHeartbeats 8000000 in
set_option maxRecDepth 100000 in
theorem sandglassref12_in.calls (k : Nat) (a0_0 : Int) (a0_1 : Int) (a0_2 : Int) (a0_3 : Int) (a1_0 : Int) (a1_1 : Int) (A1_2 : Option Addr) (c1_2 : Nat) (l1_2 : List Int) (A1_3 : Option Addr) (c1_3 : Nat) (l1_3 : List (S54)) (a2 : Int) (r : Int) (w : World) (hr1_2 : Kd.C (Kd.int .i64) w A1_2 l1_2.length l1_2) (hc1_2 : l1_2.length ≤ c1_2) (hr1_3 : Kd.C k54 w A1_3 l1_3.length l1_3) (hc1_3 : l1_3.length ≤ c1_3) (h : sandglassref12_in.f k a0_0 a0_1 a0_2 a0_3 a1_0 a1_1 l1_2 l1_3 a2 = some r) :
  Calls Try.prog 29 #[.agg #[.int .i64 a0_0, .int .i64 a0_1, .int .i64 a0_2, .int .i64 a0_3], .agg #[.int .i64 a1_0, .int .i64 a1_1, .slice A1_2 l1_2.length c1_2, .slice A1_3 l1_3.length c1_3], .int .i64 a2] w fun e w' => e = .returned (.int .i64 r) ∧ Below w.heap.size w w' := by
 have hu23 := Try.underlying23
 have hu27 := Try.underlying27
 have HR1_2 := Aside0.mk hr1_2
 have HC1_2 := Aside0.mk hc1_2
 clear hr1_2 hc1_2
 have HR1_3 := Aside0.mk hr1_3
 have HC1_3 := Aside0.mk hc1_3
 clear hr1_3 hc1_3
 have HB := Aside0.mk (Below.refl w.heap.size w)
 have H : (if a2 < 0 then (sandglassref12_in.j0 k a2 true a0_0 a0_1 a0_2 a0_3 a1_0 a1_1 l1_2 l1_3) else ((sandglassref12_number.f a0_0 a0_1 a0_2 a0_3 a1_0).bind fun t282 => (if a2 > t282 then (sandglassref12_in.j0 k a2 true a0_0 a0_1 a0_2 a0_3 a1_0 a1_1 l1_2 l1_3) else (sandglassref12_in.j0 k a2 ((l1_2.length : Int) == 0) a0_0 a0_1 a0_2 a0_3 a1_0 a1_1 l1_2 l1_3)))) = some r := h
 clear h
 have HC4 := Aside0.mk H
 clear H
 go_enter Try.func29, Try.ntmps29
 go_upto_region 1 with (first | ((with_reducible refine gate_dst (N := 3) rfl ?_); (try (refine gate_guard (by rfl) ?_; dsimp only)); refine box_event ?hg (N := 3) ?hd (cs := #[.int .i64 a0_0, .int .i64 a0_1, .int .i64 a0_2, .int .i64 a0_3]) (t := 23) ?hr ?_; (case hd => rfl); (case hg => rfl); (case hr => first | (go_simp; done) | (go_simp; rfl)); intro gb280 hg w5 hbox hb; have BK280 := Aside0.mk (hbox); have GW280 := Aside0.mk ((by rw [hg]; exact (below_size (bl HB)) : w.heap.size ≤ gb280)); have GE280 := Aside0.mk ((by rw [hg]; exact (below_size (bl HB)) : w.heap.size ≤ gb280)); replace HB := Aside0.mk (below_step (bl HB) hb); clear hb hbox hg) | ((with_reducible refine gate_dst (N := 4) rfl ?_); (try (refine gate_guard (by rfl) ?_; dsimp only)); refine box_event ?hg (N := 4) ?hd (cs := #[.int .i64 a1_0, .int .i64 a1_1, .slice A1_2 l1_2.length c1_2, .slice A1_3 l1_3.length c1_3]) (t := 27) ?hr ?_; (case hd => rfl); (case hg => rfl); (case hr => first | (go_simp; done) | (go_simp; rfl)); intro gb281 hg w6 hbox hb; have BK281 := Aside0.mk (hbox); have GW281 := Aside0.mk ((by rw [hg]; exact (below_size (bl HB)) : w.heap.size ≤ gb281)); have GE281 := Aside0.mk ((by rw [hg]; exact (below_size (bl HB)) : w.heap.size ≤ gb281)); have NB280_281 := nb BK280 hg; have NB281_280 := bn BK280 hg; replace BK280 := Aside0.mk (blk_below (bo BK280) hb); replace HB := Aside0.mk (below_step (bl HB) hb); clear hb hbox hg))
 repeat (go_quiet (first | ((with_reducible refine gate_dst (N := 3) rfl ?_); (try (refine gate_guard (by rfl) ?_; dsimp only)); refine box_event ?hg (N := 3) ?hd (cs := #[.int .i64 a0_0, .int .i64 a0_1, .int .i64 a0_2, .int .i64 a0_3]) (t := 23) ?hr ?_; (case hd => rfl); (case hg => rfl); (case hr => first | (go_simp; done) | (go_simp; rfl)); intro gb280 hg w5 hbox hb; have BK280 := Aside0.mk (hbox); have GW280 := Aside0.mk ((by rw [hg]; exact (below_size (bl HB)) : w.heap.size ≤ gb280)); have GE280 := Aside0.mk ((by rw [hg]; exact (below_size (bl HB)) : w.heap.size ≤ gb280)); replace HB := Aside0.mk (below_step (bl HB) hb); clear hb hbox hg) | ((with_reducible refine gate_dst (N := 4) rfl ?_); (try (refine gate_guard (by rfl) ?_; dsimp only)); refine box_event ?hg (N := 4) ?hd (cs := #[.int .i64 a1_0, .int .i64 a1_1, .slice A1_2 l1_2.length c1_2, .slice A1_3 l1_3.length c1_3]) (t := 27) ?hr ?_; (case hd => rfl); (case hg => rfl); (case hr => first | (go_simp; done) | (go_simp; rfl)); intro gb281 hg w6 hbox hb; have BK281 := Aside0.mk (hbox); have GW281 := Aside0.mk ((by rw [hg]; exact (below_size (bl HB)) : w.heap.size ≤ gb281)); have GE281 := Aside0.mk ((by rw [hg]; exact (below_size (bl HB)) : w.heap.size ≤ gb281)); have NB280_281 := nb BK280 hg; have NB281_280 := bn BK280 hg; replace BK280 := Aside0.mk (blk_below (bo BK280) hb); replace HB := Aside0.mk (below_step (bl HB) hb); clear hb hbox hg)); go_upto_region 1 with (first | ((with_reducible refine gate_dst (N := 3) rfl ?_); (try (refine gate_guard (by rfl) ?_; dsimp only)); refine box_event ?hg (N := 3) ?hd (cs := #[.int .i64 a0_0, .int .i64 a0_1, .int .i64 a0_2, .int .i64 a0_3]) (t := 23) ?hr ?_; (case hd => rfl); (case hg => rfl); (case hr => first | (go_simp; done) | (go_simp; rfl)); intro gb280 hg w5 hbox hb; have BK280 := Aside0.mk (hbox); have GW280 := Aside0.mk ((by rw [hg]; exact (below_size (bl HB)) : w.heap.size ≤ gb280)); have GE280 := Aside0.mk ((by rw [hg]; exact (below_size (bl HB)) : w.heap.size ≤ gb280)); replace HB := Aside0.mk (below_step (bl HB) hb); clear hb hbox hg) | ((with_reducible refine gate_dst (N := 4) rfl ?_); (try (refine gate_guard (by rfl) ?_; dsimp only)); refine box_event ?hg (N := 4) ?hd (cs := #[.int .i64 a1_0, .int .i64 a1_1, .slice A1_2 l1_2.length c1_2, .slice A1_3 l1_3.length c1_3]) (t := 27) ?hr ?_; (case hd => rfl); (case hg => rfl); (case hr => first | (go_simp; done) | (go_simp; rfl)); intro gb281 hg w6 hbox hb; have BK281 := Aside0.mk (hbox); have GW281 := Aside0.mk ((by rw [hg]; exact (below_size (bl HB)) : w.heap.size ≤ gb281)); have GE281 := Aside0.mk ((by rw [hg]; exact (below_size (bl HB)) : w.heap.size ≤ gb281)); have NB280_281 := nb BK280 hg; have NB281_280 := bn BK280 hg; replace BK280 := Aside0.mk (blk_below (bo BK280) hb); replace HB := Aside0.mk (below_step (bl HB) hb); clear hb hbox hg)))
 (try simp only [Act.put, List.setIfInBounds_toArray, List.set_cons_zero, List.set_cons_succ])
 go_cut [22] (fun v22 wc => ∃ (kq : Nat) (x22_3 : Bool), v22 = .bool x22_3 ∧ Aside0 (sandglassref12_in.j0 kq a2 x22_3 a0_0 a0_1 a0_2 a0_3 a1_0 a1_1 l1_2 l1_3 = some r) ∧ Aside0 (kq ≤ k) ∧ Aside0 (wc.heap[gb280]? = some (.cells #[.int .i64 a0_0, .int .i64 a0_1, .int .i64 a0_2, .int .i64 a0_3] 23 (0, 0))) ∧ Aside0 (wc.heap[gb281]? = some (.cells #[.int .i64 a1_0, .int .i64 a1_1, (.slice A1_2 l1_2.length c1_2), (.slice A1_3 l1_3.length c1_3)] 27 (0, 0))) ∧ Aside0 (Below w.heap.size w wc))
 case first =>
  have H := HC4.out
  clear HC4
  by_cases c7 : a2 < 0
  ·rw [if_pos c7] at H
   have c7b0 : decide (a2 < 0) = true := decide_eq_true c7
   clear c7
   (first | rw [c7b0] | (simp only [i64_w, i32_w]; rw [c7b0]) | skip)
   have H' := Aside0.mk H
   clear H
   go_wp2
   repeat (go_quiet (fail); try go_wp2)
   go_meet
   case rel => exact ⟨_, (true), (by first | (with_reducible rfl) | rfl | (simp; done) | (simp [*]; done)), H', ⟨by first | omega | exact Nat.le_refl _⟩, ⟨bo BK280⟩, ⟨bo BK281⟩, ⟨bl HB⟩⟩
  ·rw [if_neg c7] at H
   have c7b0 : decide (a2 < 0) = false := decide_eq_false c7
   clear c7
   (first | rw [c7b0] | (simp only [i64_w, i32_w]; rw [c7b0]) | skip)
   replace H := Option.bind_eq_some_iff.mp H
   obtain ⟨t282, A80, H⟩ := H
   have A8 := Aside0.mk A80
   clear A80
   by_cases c9 : a2 > t282
   ·rw [if_pos c9] at H
    have c9b0 : decide (t282 < a2) = true := decide_eq_true c9
    clear c9
    have H' := Aside0.mk H
    clear H
    have hnb10 := NB280_281.out
    have hnc10 := NB281_280.out
    obtain ⟨hcz11_0, hcz11_1, hcz11_2, hcz11_3⟩ := ce4 BK280
    obtain ⟨hfz11_0, hfz11_1, hfz11_2, hfz11_3⟩ := fr4 BK280
    obtain ⟨hcz12_0, hcz12_1, hcz12_2, hcz12_3⟩ := ce4 BK281
    obtain ⟨hfz12_0, hfz12_1, hfz12_2, hfz12_3⟩ := fr4 BK281
    go_wp2_with (first | (go_at_call 28; (with_reducible refine (sandglassref12_number.calls a0_0 a0_1 a0_2 a0_3 a1_0 t282 _ A8.out).mono ?_); rintro e w13 ⟨rfl, hb⟩; replace BK280 := Aside0.mk (blk_below (bo BK280) hb); replace BK281 := Aside0.mk (blk_below (bo BK281) hb); replace HB := Aside0.mk (below_step (bl HB) hb); (try clear hb); (try clear hb2); (try clear hk); (try clear hi)))
    repeat (go_quiet (first | (go_at_call 28; (with_reducible refine (sandglassref12_number.calls a0_0 a0_1 a0_2 a0_3 a1_0 t282 _ A8.out).mono ?_); rintro e w13 ⟨rfl, hb⟩; replace BK280 := Aside0.mk (blk_below (bo BK280) hb); replace BK281 := Aside0.mk (blk_below (bo BK281) hb); replace HB := Aside0.mk (below_step (bl HB) hb); (try clear hb); (try clear hb2); (try clear hk); (try clear hi))); try go_wp2_with (first | (go_at_call 28; (with_reducible refine (sandglassref12_number.calls a0_0 a0_1 a0_2 a0_3 a1_0 t282 _ A8.out).mono ?_); rintro e w13 ⟨rfl, hb⟩; replace BK280 := Aside0.mk (blk_below (bo BK280) hb); replace BK281 := Aside0.mk (blk_below (bo BK281) hb); replace HB := Aside0.mk (below_step (bl HB) hb); (try clear hb); (try clear hb2); (try clear hk); (try clear hi))))
    go_meet
    case rel => exact ⟨_, (true), (by first | (with_reducible rfl) | rfl | (simp; done) | (simp [*]; done)), H', ⟨by first | omega | exact Nat.le_refl _⟩, ⟨bo BK280⟩, ⟨bo BK281⟩, ⟨bl HB⟩⟩
   ·rw [if_neg c9] at H
    have c9b0 : decide (t282 < a2) = false := decide_eq_false c9
    clear c9
    have H' := Aside0.mk H
    clear H
    have hnb14 := NB280_281.out
    have hnc14 := NB281_280.out
    obtain ⟨hcz15_0, hcz15_1, hcz15_2, hcz15_3⟩ := ce4 BK280
    obtain ⟨hfz15_0, hfz15_1, hfz15_2, hfz15_3⟩ := fr4 BK280
    obtain ⟨hcz16_0, hcz16_1, hcz16_2, hcz16_3⟩ := ce4 BK281
    obtain ⟨hfz16_0, hfz16_1, hfz16_2, hfz16_3⟩ := fr4 BK281
    go_wp2_with (first | (go_at_call 28; (with_reducible refine (sandglassref12_number.calls a0_0 a0_1 a0_2 a0_3 a1_0 t282 _ A8.out).mono ?_); rintro e w17 ⟨rfl, hb⟩; replace BK280 := Aside0.mk (blk_below (bo BK280) hb); replace BK281 := Aside0.mk (blk_below (bo BK281) hb); replace HB := Aside0.mk (below_step (bl HB) hb); (try clear hb); (try clear hb2); (try clear hk); (try clear hi); obtain ⟨hcz18_0, hcz18_1, hcz18_2, hcz18_3⟩ := ce4 BK281; obtain ⟨hfz18_0, hfz18_1, hfz18_2, hfz18_3⟩ := fr4 BK281))
    repeat (go_quiet (first | (go_at_call 28; (with_reducible refine (sandglassref12_number.calls a0_0 a0_1 a0_2 a0_3 a1_0 t282 _ A8.out).mono ?_); rintro e w17 ⟨rfl, hb⟩; replace BK280 := Aside0.mk (blk_below (bo BK280) hb); replace BK281 := Aside0.mk (blk_below (bo BK281) hb); replace HB := Aside0.mk (below_step (bl HB) hb); (try clear hb); (try clear hb2); (try clear hk); (try clear hi); obtain ⟨hcz18_0, hcz18_1, hcz18_2, hcz18_3⟩ := ce4 BK281; obtain ⟨hfz18_0, hfz18_1, hfz18_2, hfz18_3⟩ := fr4 BK281)); try go_wp2_with (first | (go_at_call 28; (with_reducible refine (sandglassref12_number.calls a0_0 a0_1 a0_2 a0_3 a1_0 t282 _ A8.out).mono ?_); rintro e w17 ⟨rfl, hb⟩; replace BK280 := Aside0.mk (blk_below (bo BK280) hb); replace BK281 := Aside0.mk (blk_below (bo BK281) hb); replace HB := Aside0.mk (below_step (bl HB) hb); (try clear hb); (try clear hb2); (try clear hk); (try clear hi); obtain ⟨hcz18_0, hcz18_1, hcz18_2, hcz18_3⟩ := ce4 BK281; obtain ⟨hfz18_0, hfz18_1, hfz18_2, hfz18_3⟩ := fr4 BK281)))
    go_meet
    case rel => exact ⟨_, (((l1_2.length : Int) == 0)), (by first | (with_reducible rfl) | rfl | (simp; done) | (simp [*]; done)), H', ⟨by first | omega | exact Nat.le_refl _⟩, ⟨bo BK280⟩, ⟨bo BK281⟩, ⟨bl HB⟩⟩
 case rest =>
  clear HC4
  try clear c7; try clear c7b0; try clear c9; try clear c9b0; try clear hcz11_0; try clear hcz11_1; try clear hcz11_2; try clear hcz11_3; try clear hcz12_0; try clear hcz12_1; try clear hcz12_2; try clear hcz12_3; try clear hcz15_0; try clear hcz15_1; try clear hcz15_2; try clear hcz15_3; try clear hcz16_0; try clear hcz16_1; try clear hcz16_2; try clear hcz16_3; try clear hcz18_0; try clear hcz18_1; try clear hcz18_2; try clear hcz18_3; try clear hfz11_0; try clear hfz11_1; try clear hfz11_2; try clear hfz11_3; try clear hfz12_0; try clear hfz12_1; try clear hfz12_2; try clear hfz12_3; try clear hfz15_0; try clear hfz15_1; try clear hfz15_2; try clear hfz15_3; try clear hfz16_0; try clear hfz16_1; try clear hfz16_2; try clear hfz16_3; try clear hfz18_0; try clear hfz18_1; try clear hfz18_2; try clear hfz18_3
  obtain ⟨kq, x22_3, rfl, HA, HJ3, BK280, BK281, HB⟩ := hcut
  cases kq with
  | zero => exact absurd HA.out (by simp [sandglassref12_in.j0])
  | succ kj3 =>
   have H := HA.out
   clear HA
   simp only [sandglassref12_in.j0] at H
   by_cases c19 : x22_3 = true
   ·subst c19
    rw [if_pos rfl] at H
    obtain rfl := Option.some.inj H
    go_wp2
    repeat (go_quiet (fail); try go_wp2)
    go_ret
    exact ⟨by first | (with_reducible rfl) | rfl | (simp [errW_none, errW_some] <;> rfl) | (simp [*, errW_none, errW_some] <;> rfl), bl HB⟩
   ·replace c19 := Bool.eq_false_iff.mpr c19
    subst c19
    rw [if_neg (show ¬ (false = true) by decide)] at H
    by_cases c20 : a0_3 = 0
    ·rw [if_pos c20] at H
     exact absurd H (by simp)
    ·rw [if_neg c20] at H
     have c20b0 : (a0_3 == 0) = false := beq_eq_false_iff_ne.mpr c20
     have c20b1 : (a0_3 != 0) = true := bne_iff_ne.mpr c20
     obtain ⟨ji21, hji21⟩ : ∃ j_ : Int, (Int.tmod a2 a0_3) = j_ := ⟨_, rfl⟩
     replace H : (if 0 ≤ (ji21) then (if (ji21) < (l1_2.length : Int) then (some (rd l1_2 (ji21))) else (none)) else (none)) = some r := by first | (rw [hji21] at H; exact H) | (simp only [hji21] at H ⊢; exact H)
     by_cases c22 : 0 ≤ (ji21)
     ·rw [if_pos c22] at H
      have c22b0 : decide (0 ≤ (ji21)) = true := decide_eq_true c22
      clear c22
      by_cases c23 : (ji21) < (l1_2.length : Int)
      ·rw [if_pos c23] at H
       have c23b0 : decide ((ji21) < (l1_2.length : Int)) = true := decide_eq_true c23
       clear c23
       obtain rfl := Option.some.inj H
       have hnb24 := NB281_280.out
       have hnc24 := NB280_281.out
       obtain ⟨hcz25_0, hcz25_1, hcz25_2, hcz25_3⟩ := ce4 BK281
       obtain ⟨hfz25_0, hfz25_1, hfz25_2, hfz25_3⟩ := fr4 BK281
       obtain ⟨hcz26_0, hcz26_1, hcz26_2, hcz26_3⟩ := ce4 BK280
       obtain ⟨hfz26_0, hfz26_1, hfz26_2, hfz26_3⟩ := fr4 BK280
       have p283 : 0 ≤ ((ji21) : Int) := of_decide_eq_true (by first | (with_reducible assumption) | assumption)
       have q283 : (ji21) < (l1_2.length : Int) := of_decide_eq_true (by first | (with_reducible assumption) | assumption)
       obtain ⟨ad283, e283, hx283_0⟩ := Kd.at_int HR1_2.out (ji21) p283 q283
       cases e283
       replace hx283_0 := (HB.out.cell (World.block_lt_of_cell? w _ hx283_0)).trans hx283_0
       replace p283 := eq_true p283
       replace q283 := eq_true q283
       go_wp2
       repeat (go_quiet (fail); try go_wp2)
       go_ret
       exact ⟨by first | (with_reducible rfl) | (simp only [← hji21]; with_reducible rfl) | (simp only [← hji21]; done) | rfl | (simp [errW_none, errW_some] <;> rfl) | (simp only [← hji21]; first | rfl | (simp [errW_none, errW_some] <;> rfl)) | (simp [*, errW_none, errW_some] <;> rfl), bl HB⟩
      ·rw [if_neg c23] at H
       exact absurd H (by simp)
     ·rw [if_neg c22] at H
      exact absurd H (by simp)

end Go.Proofs.Ytalcmlgkdkbbaaa.Q
