-- Laid by wip/tools/hprint.py, a program of this repo, over the kit's print; not a text of print.sh.
import Derived.Test.YtempbjcmhillgaaQ0
namespace Go.Proofs.Ytempbjcmhillgaa.Q
open Go.RowKit Go.Proofs.Ytempbjcmhillgaa.Zip Go.Proofs.YtempbjcmhillgaaW.PrintWords Go.Proofs.YtempbjcmhillgaaW.PrintLast Go.Proofs.YtempbjcmhillgaaW.PrintMore
attribute [local go_sem] max2_int min2_int max_two min_two max_three min_three max_four min_four   -- for this text's walks alone
set_option linter.unusedVariables false
set_option linter.unusedSimpArgs false

/-! ### sandglassref13_counts: function 28 -/
def sandglassref13_counts.l0 : Nat → List (S50) → Int → Int → Int → Int → Int → Int → Int → Option (Int)
  | 0, _, _, _, _, _, _, _, _ => none
  | k + 1, x1, x2, x7, x8, x275000, x275001, x275002, x275003 => if x8 < (x1.length : Int) then (if 0 ≤ x8 then (if ((rd_T50 x1 x8).f0) > (wrap64 (x2 - x275002)) then (sandglassref13_counts.l0 k x1 x2 (wrap64 (x7 + ((rd_T50 x1 x8).f1))) (wrap64 (x8 + 1)) x275000 x275001 x275002 x275003) else (sandglassref13_counts.l0 k x1 x2 x7 (wrap64 (x8 + 1)) x275000 x275001 x275002 x275003)) else (none)) else (some x7)
def sandglassref13_counts.f (k : Nat) (a0_0 : Int) (a0_1 : Int) (a0_2 : Int) (a0_3 : Int) (l1 : List (S50)) (a2 : Int) : Option (Int) := sandglassref13_counts.l0 k l1 a2 0 0 a0_0 a0_1 a0_2 a0_3
theorem sandglassref13_counts.mono_l : ∀ k, (∀ y0 y1 y2 y3 y4 y5 y6 y7, LeO (sandglassref13_counts.l0 k y0 y1 y2 y3 y4 y5 y6 y7) (sandglassref13_counts.l0 (k + 1) y0 y1 y2 y3 y4 y5 y6 y7))
  | 0 => fun _ _ _ _ _ _ _ _ r h => by simp [sandglassref13_counts.l0] at h
  | k + 1 => by
    have ih0 := sandglassref13_counts.mono_l k
    · intro y0 y1 y2 y3 y4 y5 y6 y7
      unfold sandglassref13_counts.l0
      repeat' first
      | (with_reducible exact ih0 _ _ _ _ _ _ _ _)
      | (with_reducible exact LeO.refl _)
      | (with_reducible exact LeO.none _)
      | (with_reducible refine LeO.ite ?_ ?_)
      | (with_reducible refine LeO.bind ?_ (fun _ => ?_))
      | exact ih0 _ _ _ _ _ _ _ _
      | exact LeO.none _
      | refine LeO.ite ?_ ?_
      | refine LeO.bind ?_ (fun _ => ?_)
theorem sandglassref13_counts.mono : ∀ a0 a1 a2 a3 a4 a5 k, LeO (sandglassref13_counts.f k a0 a1 a2 a3 a4 a5) (sandglassref13_counts.f (k + 1) a0 a1 a2 a3 a4 a5) := by
  intro a0 a1 a2 a3 a4 a5 k
  have ih0 := sandglassref13_counts.mono_l k
  unfold sandglassref13_counts.f
  repeat' first
      | (with_reducible exact ih0 _ _ _ _ _ _ _ _)
      | (with_reducible exact LeO.refl _)
      | (with_reducible exact LeO.none _)
      | (with_reducible refine LeO.ite ?_ ?_)
      | (with_reducible refine LeO.bind ?_ (fun _ => ?_))
      | exact ih0 _ _ _ _ _ _ _ _
      | exact LeO.none _
      | refine LeO.ite ?_ ?_
      | refine LeO.bind ?_ (fun _ => ?_)
set_option maxHeartbeats 8000000 in
set_option maxRecDepth 100000 in
theorem sandglassref13_counts.calls (k : Nat) (a0_0 : Int) (a0_1 : Int) (a0_2 : Int) (a0_3 : Int) (A1 : Option Addr) (c1 : Nat) (l1 : List (S50)) (a2 : Int) (r : Int) (w : World) (hr1 : Kd.C k50 w A1 l1.length l1) (hc1 : l1.length ≤ c1) (h : sandglassref13_counts.f k a0_0 a0_1 a0_2 a0_3 l1 a2 = some r) :
  Calls Try.prog 28 #[.agg #[.int .i64 a0_0, .int .i64 a0_1, .int .i64 a0_2, .int .i64 a0_3], .slice A1 l1.length c1, .int .i64 a2] w fun e w' => e = .returned (.int .i64 r) ∧ Below w.heap.size w w' := by
 have hu23 := Try.underlying23
 have HR1 := Aside0.mk hr1
 have HC1 := Aside0.mk hc1
 clear hr1 hc1
 have HB := Aside0.mk (Below.refl w.heap.size w)
 have H : (sandglassref13_counts.l0 k l1 a2 0 0 a0_0 a0_1 a0_2 a0_3) = some r := h
 clear h
 have H' := Aside0.mk H
 clear H
 go_enter Try.func28, Try.ntmps28
 go_wp2_with (first | ((with_reducible refine gate_dst (N := 3) rfl ?_); refine box_event ?hg (N := 3) ?hd (cs := #[.int .i64 a0_0, .int .i64 a0_1, .int .i64 a0_2, .int .i64 a0_3]) (t := 23) ?hr ?_; (case hd => rfl); (case hg => rfl); (case hr => first | (go_simp; done) | (go_simp; rfl)); intro gb274 hg w4 hbox hb; have BK274 := Aside0.mk (hbox); have GW274 := Aside0.mk ((by rw [hg]; exact (below_size (bl HB)) : w.heap.size ≤ gb274)); have GE274 := Aside0.mk ((by rw [hg]; exact (below_size (bl HB)) : w.heap.size ≤ gb274)); replace HB := Aside0.mk (below_step (bl HB) hb); clear hb hbox hg))
 repeat (go_quiet (first | ((with_reducible refine gate_dst (N := 3) rfl ?_); refine box_event ?hg (N := 3) ?hd (cs := #[.int .i64 a0_0, .int .i64 a0_1, .int .i64 a0_2, .int .i64 a0_3]) (t := 23) ?hr ?_; (case hd => rfl); (case hg => rfl); (case hr => first | (go_simp; done) | (go_simp; rfl)); intro gb274 hg w4 hbox hb; have BK274 := Aside0.mk (hbox); have GW274 := Aside0.mk ((by rw [hg]; exact (below_size (bl HB)) : w.heap.size ≤ gb274)); have GE274 := Aside0.mk ((by rw [hg]; exact (below_size (bl HB)) : w.heap.size ≤ gb274)); replace HB := Aside0.mk (below_step (bl HB) hb); clear hb hbox hg)); try go_wp2_with (first | ((with_reducible refine gate_dst (N := 3) rfl ?_); refine box_event ?hg (N := 3) ?hd (cs := #[.int .i64 a0_0, .int .i64 a0_1, .int .i64 a0_2, .int .i64 a0_3]) (t := 23) ?hr ?_; (case hd => rfl); (case hg => rfl); (case hr => first | (go_simp; done) | (go_simp; rfl)); intro gb274 hg w4 hbox hb; have BK274 := Aside0.mk (hbox); have GW274 := Aside0.mk ((by rw [hg]; exact (below_size (bl HB)) : w.heap.size ≤ gb274)); have GE274 := Aside0.mk ((by rw [hg]; exact (below_size (bl HB)) : w.heap.size ≤ gb274)); replace HB := Aside0.mk (below_step (bl HB) hb); clear hb hbox hg)))
 go_loopg [7, 8] k (fun kq v7 v8 w' => ∃ (x7_1 : Int) (x8_1 : Int), v7 = .int .i64 x7_1 ∧ v8 = .int .i64 x8_1 ∧ Aside0 (sandglassref13_counts.l0 kq l1 a2 x7_1 x8_1 a0_0 a0_1 a0_2 a0_3 = some r) ∧ Aside0 (kq ≤ k) ∧ Aside0 (w'.heap[gb274]? = some (.cells #[.int .i64 a0_0, .int .i64 a0_1, .int .i64 a0_2, .int .i64 a0_3] 23 (0, 0))) ∧ Aside0 (Below w.heap.size w w'))
 case atStart => exact ⟨(0), (0), (by first | (with_reducible rfl) | rfl | (simp; done) | (simp [*]; done)), (by first | (with_reducible rfl) | rfl | (simp; done) | (simp [*]; done)), H', ⟨Nat.le_refl _⟩, ⟨bo BK274⟩, ⟨bl HB⟩⟩
 case round =>
  clear H'
  try clear c1
  obtain ⟨x7_1, x8_1, rfl, rfl, HA, HK1, BK274, HB⟩ := hrel
  cases gk with
  | zero => exact absurd HA.out (by simp [sandglassref13_counts.l0])
  | succ k1 =>
   have H := HA.out
   clear HA
   simp only [sandglassref13_counts.l0] at H
   by_cases c5 : x8_1 < (l1.length : Int)
   ·rw [if_pos c5] at H
    have c5b0 : decide (x8_1 < (l1.length : Int)) = true := decide_eq_true c5
    clear c5
    by_cases c6 : 0 ≤ x8_1
    ·rw [if_pos c6] at H
     have c6b0 : decide (0 ≤ x8_1) = true := decide_eq_true c6
     clear c6
     by_cases c7 : ((rd_T50 l1 x8_1).f0) > (wrap64 (a2 - a0_2))
     ·rw [if_pos c7] at H
      have c7b0 : decide ((wrap64 (a2 - a0_2)) < ((rd_T50 l1 x8_1).f0)) = true := decide_eq_true c7
      clear c7
      have H' := Aside0.mk H
      clear H
      have p275 : 0 ≤ (x8_1 : Int) := of_decide_eq_true (by first | (with_reducible assumption) | assumption)
      have q275 : x8_1 < (l1.length : Int) := of_decide_eq_true (by first | (with_reducible assumption) | assumption)
      obtain ⟨ad275, e275, hx275_0, hx275_1⟩ := at_T50 HR1.out x8_1 p275 q275
      cases e275
      replace hx275_0 := (HB.out.cell (World.block_lt_of_cell? w _ hx275_0)).trans hx275_0
      replace hx275_1 := (HB.out.cell (World.block_lt_of_cell? w _ hx275_1)).trans hx275_1
      replace p275 := eq_true p275
      replace q275 := eq_true q275
      obtain ⟨hcz8_0, hcz8_1, hcz8_2, hcz8_3⟩ := ce4 BK274
      obtain ⟨hfz8_0, hfz8_1, hfz8_2, hfz8_3⟩ := fr4 BK274
      have p276 : 0 ≤ (x8_1 : Int) := of_decide_eq_true (by first | (with_reducible assumption) | assumption)
      have q276 : x8_1 < (l1.length : Int) := of_decide_eq_true (by first | (with_reducible assumption) | assumption)
      obtain ⟨ad276, e276, hx276_0, hx276_1⟩ := at_T50 HR1.out x8_1 p276 q276
      obtain rfl : ad275 = ad276 := (by injection e276)
      replace hx276_0 := (HB.out.cell (World.block_lt_of_cell? w _ hx276_0)).trans hx276_0
      replace hx276_1 := (HB.out.cell (World.block_lt_of_cell? w _ hx276_1)).trans hx276_1
      replace p276 := eq_true p276
      replace q276 := eq_true q276
      go_wp2
      repeat (go_quiet (fail); try go_wp2)
      go_roundg k1
      case measure => have := HK1.out; omega
      case rel => exact ⟨(wrap64 (x7_1 + ((rd_T50 l1 x8_1).f1))), (wrap64 (x8_1 + 1)), (by first | (with_reducible rfl) | rfl | (simp; done) | (simp [*]; done)), (by first | (with_reducible rfl) | rfl | (simp; done) | (simp [*]; done)), H', ⟨by have := HK1.out; omega⟩, ⟨bo BK274⟩, ⟨bl HB⟩⟩
     ·rw [if_neg c7] at H
      have c7b0 : decide ((wrap64 (a2 - a0_2)) < ((rd_T50 l1 x8_1).f0)) = false := decide_eq_false c7
      clear c7
      have H' := Aside0.mk H
      clear H
      have p275 : 0 ≤ (x8_1 : Int) := of_decide_eq_true (by first | (with_reducible assumption) | assumption)
      have q275 : x8_1 < (l1.length : Int) := of_decide_eq_true (by first | (with_reducible assumption) | assumption)
      obtain ⟨ad275, e275, hx275_0, hx275_1⟩ := at_T50 HR1.out x8_1 p275 q275
      cases e275
      replace hx275_0 := (HB.out.cell (World.block_lt_of_cell? w _ hx275_0)).trans hx275_0
      replace hx275_1 := (HB.out.cell (World.block_lt_of_cell? w _ hx275_1)).trans hx275_1
      replace p275 := eq_true p275
      replace q275 := eq_true q275
      obtain ⟨hcz9_0, hcz9_1, hcz9_2, hcz9_3⟩ := ce4 BK274
      obtain ⟨hfz9_0, hfz9_1, hfz9_2, hfz9_3⟩ := fr4 BK274
      go_wp2
      repeat (go_quiet (fail); try go_wp2)
      go_roundg k1
      case measure => have := HK1.out; omega
      case rel => exact ⟨(x7_1), (wrap64 (x8_1 + 1)), (by first | (with_reducible rfl) | rfl | (simp; done) | (simp [*]; done)), (by first | (with_reducible rfl) | rfl | (simp; done) | (simp [*]; done)), H', ⟨by have := HK1.out; omega⟩, ⟨bo BK274⟩, ⟨bl HB⟩⟩
    ·rw [if_neg c6] at H
     exact absurd H (by simp)
   ·rw [if_neg c5] at H
    have c5b0 : decide (x8_1 < (l1.length : Int)) = false := decide_eq_false c5
    clear c5
    obtain rfl := Option.some.inj H
    go_wp2
    repeat (go_quiet (fail); try go_wp2)
    go_ret
    exact ⟨by first | (with_reducible rfl) | rfl | (simp [errW_none, errW_some] <;> rfl) | (simp [*, errW_none, errW_some] <;> rfl), bl HB⟩

end Go.Proofs.Ytempbjcmhillgaa.Q
