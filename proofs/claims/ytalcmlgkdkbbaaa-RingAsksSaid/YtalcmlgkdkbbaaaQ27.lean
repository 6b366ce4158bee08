-- Laid by wip/tools/hprint.py, a program of this repo, over the kit's print; not a text of print.sh.
import Derived.Test.YtalcmlgkdkbbaaaQ0
import Derived.Test.YtalcmlgkdkbbaaaQ22
import Derived.Test.YtalcmlgkdkbbaaaQ26
namespace Go.Proofs.Ytalcmlgkdkbbaaa.Q
open Go.RowKit Go.Proofs.Ytalcmlgkdkbbaaa.Zip Go.Proofs.YtalcmlgkdkbbaaaW.PrintWords Go.Proofs.YtalcmlgkdkbbaaaW.PrintLast Go.Proofs.YtalcmlgkdkbbaaaW.PrintMore
attribute [local go_sem] max2_int min2_int max_two min_two max_three min_three max_four min_four   -- for this text's walks alone
set_option linter.unusedVariables false
set_option linter.unusedSimpArgs false

/-! ### sandglassref12_wait: function 31 -/
def sandglassref12_wait.l0 : Nat → Int → Int → Int → Int → Int → Int → Int → Int → Int → Int → List Int → List (S54) → Option (Int)
  | 0, _, _, _, _, _, _, _, _, _, _, _, _ => none
  | k + 1, x2, x3, x9, x10, x290000, x290001, x290002, x290003, x291000, x291001, x291002, x291003 => if x10 < x290003 then ((sandglassref12_number.f x290000 x290001 x290002 x290003 x2).bind fun t292 => ((sandglassref12_counts.f k x290000 x290001 x290002 x290003 x291000 x291001 x291002 x291003 (wrap64 (x9 * (wrap64 (t292 + x10))))).bind fun t293 => (if t293 ≤ x3 then (some (wrap64 ((wrap64 (x9 * (wrap64 (t292 + x10)))) - x2))) else (sandglassref12_wait.l0 k x2 x3 x9 (wrap64 (x10 + 1)) x290000 x290001 x290002 x290003 x291000 x291001 x291002 x291003)))) else ((sandglassref12_number.f x290000 x290001 x290002 x290003 x2).bind fun t294 => (some (wrap64 ((wrap64 (x9 * (wrap64 (t294 + x290003)))) - x2))))
def sandglassref12_wait.f (k : Nat) (a0_0 : Int) (a0_1 : Int) (a0_2 : Int) (a0_3 : Int) (a1_0 : Int) (a1_1 : Int) (l1_2 : List Int) (l1_3 : List (S54)) (a2 : Int) (a3 : Int) : Option (Int) := (sandglassref12_counts.f k a0_0 a0_1 a0_2 a0_3 a1_0 a1_1 l1_2 l1_3 a2).bind fun t291 => (if t291 ≤ a3 then (some 0) else (if a0_3 = 0 then (none) else (sandglassref12_wait.l0 k a2 a3 (wrap64 (Int.tdiv a0_2 a0_3)) 1 a0_0 a0_1 a0_2 a0_3 a1_0 a1_1 l1_2 l1_3)))
theorem sandglassref12_wait.mono_l : ∀ k, (∀ y0 y1 y2 y3 y4 y5 y6 y7 y8 y9 y10 y11, LeO (sandglassref12_wait.l0 k y0 y1 y2 y3 y4 y5 y6 y7 y8 y9 y10 y11) (sandglassref12_wait.l0 (k + 1) y0 y1 y2 y3 y4 y5 y6 y7 y8 y9 y10 y11))
  | 0 => fun _ _ _ _ _ _ _ _ _ _ _ _ r h => by simp [sandglassref12_wait.l0] at h
  | k + 1 => by
    have ih0 := sandglassref12_wait.mono_l k
    · intro y0 y1 y2 y3 y4 y5 y6 y7 y8 y9 y10 y11
      unfold sandglassref12_wait.l0
      repeat' first
      | (with_reducible exact ih0 _ _ _ _ _ _ _ _ _ _ _ _)
      | (with_reducible exact sandglassref12_counts.mono _ _ _ _ _ _ _ _ _ _)
      | (with_reducible exact LeO.refl _)
      | (with_reducible exact LeO.none _)
      | (with_reducible refine LeO.ite ?_ ?_)
      | (with_reducible refine LeO.bind ?_ (fun _ => ?_))
      | exact ih0 _ _ _ _ _ _ _ _ _ _ _ _
      | exact sandglassref12_counts.mono _ _ _ _ _ _ _ _ _ _
      | exact LeO.none _
      | refine LeO.ite ?_ ?_
      | refine LeO.bind ?_ (fun _ => ?_)
theorem sandglassref12_wait.mono : ∀ a0 a1 a2 a3 a4 a5 a6 a7 a8 a9 k, LeO (sandglassref12_wait.f k a0 a1 a2 a3 a4 a5 a6 a7 a8 a9) (sandglassref12_wait.f (k + 1) a0 a1 a2 a3 a4 a5 a6 a7 a8 a9) := by
  intro a0 a1 a2 a3 a4 a5 a6 a7 a8 a9 k
  have ih0 := sandglassref12_wait.mono_l k
  unfold sandglassref12_wait.f
  repeat' first
      | (with_reducible exact ih0 _ _ _ _ _ _ _ _ _ _ _ _)
      | (with_reducible exact sandglassref12_counts.mono _ _ _ _ _ _ _ _ _ _)
      | (with_reducible exact LeO.refl _)
      | (with_reducible exact LeO.none _)
      | (with_reducible refine LeO.ite ?_ ?_)
      | (with_reducible refine LeO.bind ?_ (fun _ => ?_))
      | exact ih0 _ _ _ _ _ _ _ _ _ _ _ _
      | exact sandglassref12_counts.mono _ _ _ _ _ _ _ _ _ _
      | exact LeO.none _
      | refine LeO.ite ?_ ?_
      | refine LeO.bind ?_ (fun _ => ?_)
def sandglassref12_wait.T10 : Bool × List (List Nat × List Nat) := (true, [([], []), ([], []), ([], []), ([1, 2], [1, 2]), ([], []), ([4], [4]), ([3, 5], [3, 5]), ([0, 6], [0, 6]), ([], []), ([7, 8], [7, 8]), ([9, 3, 0, 1, 2, 3, 4, 5, 6, 7, 8, 9], [9])])
def sandglassref12_wait.B10 : List Nat := [0, 0, 0, 6, 0, 16, 62, 127, 0, 511, 1023]
theorem sandglassref12_wait.tab10 : rtab .any (opsOf Try.f31 10) = sandglassref12_wait.T10 := by kernel_rfl
theorem sandglassref12_wait.bits10 : waitsOk sandglassref12_wait.T10.2 sandglassref12_wait.B10 = true := by kernel_rfl
set_option maxHeartbeats 8000000 in
set_option maxRecDepth 100000 in
theorem sandglassref12_wait.calls (k : Nat) (a0_0 : Int) (a0_1 : Int) (a0_2 : Int) (a0_3 : Int) (a1_0 : Int) (a1_1 : Int) (A1_2 : Option Addr) (c1_2 : Nat) (l1_2 : List Int) (A1_3 : Option Addr) (c1_3 : Nat) (l1_3 : List (S54)) (a2 : Int) (a3 : Int) (r : Int) (w : World) (hr1_2 : Kd.C (Kd.int .i64) w A1_2 l1_2.length l1_2) (hc1_2 : l1_2.length ≤ c1_2) (hr1_3 : Kd.C k54 w A1_3 l1_3.length l1_3) (hc1_3 : l1_3.length ≤ c1_3) (h : sandglassref12_wait.f k a0_0 a0_1 a0_2 a0_3 a1_0 a1_1 l1_2 l1_3 a2 a3 = some r) :
  Calls Try.prog 31 #[.agg #[.int .i64 a0_0, .int .i64 a0_1, .int .i64 a0_2, .int .i64 a0_3], .agg #[.int .i64 a1_0, .int .i64 a1_1, .slice A1_2 l1_2.length c1_2, .slice A1_3 l1_3.length c1_3], .int .i64 a2, .int .i64 a3] w fun e w' => e = .returned (.int .i64 r) ∧ Below w.heap.size w w' := by
 have hu23 := Try.underlying23
 have hu27 := Try.underlying27
 have HR1_2 := Aside0.mk hr1_2
 have HC1_2 := Aside0.mk hc1_2
 clear hr1_2 hc1_2
 have HR1_3 := Aside0.mk hr1_3
 have HC1_3 := Aside0.mk hc1_3
 clear hr1_3 hc1_3
 have HB := Aside0.mk (Below.refl w.heap.size w)
 have H : ((sandglassref12_counts.f k a0_0 a0_1 a0_2 a0_3 a1_0 a1_1 l1_2 l1_3 a2).bind fun t291 => (if t291 ≤ a3 then (some 0) else (if a0_3 = 0 then (none) else (sandglassref12_wait.l0 k a2 a3 (wrap64 (Int.tdiv a0_2 a0_3)) 1 a0_0 a0_1 a0_2 a0_3 a1_0 a1_1 l1_2 l1_3)))) = some r := h
 clear h
 replace H := Option.bind_eq_some_iff.mp H
 obtain ⟨t291, A50, H⟩ := H
 have A5 := Aside0.mk A50
 clear A50
 by_cases c6 : t291 ≤ a3
 ·rw [if_pos c6] at H
  have c6b0 : decide (t291 ≤ a3) = true := decide_eq_true c6
  clear c6
  obtain rfl := Option.some.inj H
  go_enter Try.func31, Try.ntmps31
  go_wp2_with (first | ((with_reducible refine gate_dst (N := 4) rfl ?_); refine box_event ?hg (N := 4) ?hd (cs := #[.int .i64 a0_0, .int .i64 a0_1, .int .i64 a0_2, .int .i64 a0_3]) (t := 23) ?hr ?_; (case hd => rfl); (case hg => rfl); (case hr => first | (go_simp; done) | (go_simp; rfl)); intro gb289 hg w7 hbox hb; have BK289 := Aside0.mk (hbox); have GW289 := Aside0.mk ((by rw [hg]; exact (below_size (bl HB)) : w.heap.size ≤ gb289)); have GE289 := Aside0.mk ((by rw [hg]; exact (below_size (bl HB)) : w.heap.size ≤ gb289)); replace HB := Aside0.mk (below_step (bl HB) hb); clear hb hbox hg) | ((with_reducible refine gate_dst (N := 5) rfl ?_); refine box_event ?hg (N := 5) ?hd (cs := #[.int .i64 a1_0, .int .i64 a1_1, .slice A1_2 l1_2.length c1_2, .slice A1_3 l1_3.length c1_3]) (t := 27) ?hr ?_; (case hd => rfl); (case hg => rfl); (case hr => first | (go_simp; done) | (go_simp; rfl)); intro gb290 hg w8 hbox hb; have BK290 := Aside0.mk (hbox); have GW290 := Aside0.mk ((by rw [hg]; exact (below_size (bl HB)) : w.heap.size ≤ gb290)); have GE290 := Aside0.mk ((by rw [hg]; exact (below_size (bl HB)) : w.heap.size ≤ gb290)); have NB289_290 := nb BK289 hg; have NB290_289 := bn BK289 hg; replace BK289 := Aside0.mk (blk_below (bo BK289) hb); replace HB := Aside0.mk (below_step (bl HB) hb); clear hb hbox hg; have hnb9 := NB289_290.out; have hnc9 := NB290_289.out; obtain ⟨hcz10_0, hcz10_1, hcz10_2, hcz10_3⟩ := ce4 BK289; obtain ⟨hfz10_0, hfz10_1, hfz10_2, hfz10_3⟩ := fr4 BK289; obtain ⟨hcz11_0, hcz11_1, hcz11_2, hcz11_3⟩ := ce4 BK290; obtain ⟨hfz11_0, hfz11_1, hfz11_2, hfz11_3⟩ := fr4 BK290) | ((with_reducible refine gate_callee (f := 30) rfl ?_); refine goesL_ (some 15) rfl rfl Try.func30 (by kernel_rfl) rfl #[.agg #[.int .i64 a0_0, .int .i64 a0_1, .int .i64 a0_2, .int .i64 a0_3], .agg #[.int .i64 a1_0, .int .i64 a1_1, .slice A1_2 l1_2.length c1_2, .slice A1_3 l1_3.length c1_3], .int .i64 a2] rfl (by (try simp only [List.map_toArray, List.map_cons, List.map_nil]); first | done | rfl | (simp only [List.length_drop, List.length_take]; rfl)) ?_; (with_reducible refine (sandglassref12_counts.calls k a0_0 a0_1 a0_2 a0_3 a1_0 a1_1 _ _ l1_2 _ _ l1_3 a2 t291 _ ?side1 ?side2 ?side3 ?side4 A5.out).mono ?_); (case side1 => repeat (first | exact (Kd.C_below HR1_2.out HB.out) | (with_reducible refine Kd.C_alloc ?_ _) | (with_reducible refine Kd.C_drewN ?_ _) | (with_reducible refine Kd.C_drew ?_))); (case side2 => exact HC1_2.out); (case side3 => repeat (first | exact (Kd.C_below HR1_3.out HB.out) | (with_reducible refine Kd.C_alloc ?_ _) | (with_reducible refine Kd.C_drewN ?_ _) | (with_reducible refine Kd.C_drew ?_))); (case side4 => exact HC1_3.out); rintro e w12 ⟨rfl, hb⟩; refine ⟨_, rfl, ?_⟩; replace BK289 := Aside0.mk (blk_below (bo BK289) hb); replace BK290 := Aside0.mk (blk_below (bo BK290) hb); replace HB := Aside0.mk (below_step (bl HB) hb); (try clear hb); (try clear hb2); (try clear hk); (try clear hi)))
  go_ret
  exact ⟨by first | (with_reducible rfl) | rfl | (simp [errW_none, errW_some] <;> rfl) | (simp [*, errW_none, errW_some] <;> rfl), bl HB⟩
 ·rw [if_neg c6] at H
  have c6b0 : decide (t291 ≤ a3) = false := decide_eq_false c6
  clear c6
  by_cases c13 : a0_3 = 0
  ·rw [if_pos c13] at H
   exact absurd H (by simp)
  ·rw [if_neg c13] at H
   have c13b0 : (a0_3 == 0) = false := beq_eq_false_iff_ne.mpr c13
   have c13b1 : (a0_3 != 0) = true := bne_iff_ne.mpr c13
   have H' := Aside0.mk H
   clear H
   go_enter Try.func31, Try.ntmps31
   go_wp2_with (first | ((with_reducible refine gate_dst (N := 4) rfl ?_); refine box_event ?hg (N := 4) ?hd (cs := #[.int .i64 a0_0, .int .i64 a0_1, .int .i64 a0_2, .int .i64 a0_3]) (t := 23) ?hr ?_; (case hd => rfl); (case hg => rfl); (case hr => first | (go_simp; done) | (go_simp; rfl)); intro gb289 hg w14 hbox hb; have BK289 := Aside0.mk (hbox); have GW289 := Aside0.mk ((by rw [hg]; exact (below_size (bl HB)) : w.heap.size ≤ gb289)); have GE289 := Aside0.mk ((by rw [hg]; exact (below_size (bl HB)) : w.heap.size ≤ gb289)); replace HB := Aside0.mk (below_step (bl HB) hb); clear hb hbox hg) | ((with_reducible refine gate_dst (N := 5) rfl ?_); refine box_event ?hg (N := 5) ?hd (cs := #[.int .i64 a1_0, .int .i64 a1_1, .slice A1_2 l1_2.length c1_2, .slice A1_3 l1_3.length c1_3]) (t := 27) ?hr ?_; (case hd => rfl); (case hg => rfl); (case hr => first | (go_simp; done) | (go_simp; rfl)); intro gb290 hg w15 hbox hb; have BK290 := Aside0.mk (hbox); have GW290 := Aside0.mk ((by rw [hg]; exact (below_size (bl HB)) : w.heap.size ≤ gb290)); have GE290 := Aside0.mk ((by rw [hg]; exact (below_size (bl HB)) : w.heap.size ≤ gb290)); have NB289_290 := nb BK289 hg; have NB290_289 := bn BK289 hg; replace BK289 := Aside0.mk (blk_below (bo BK289) hb); replace HB := Aside0.mk (below_step (bl HB) hb); clear hb hbox hg; have hnb16 := NB289_290.out; have hnc16 := NB290_289.out; obtain ⟨hcz17_0, hcz17_1, hcz17_2, hcz17_3⟩ := ce4 BK289; obtain ⟨hfz17_0, hfz17_1, hfz17_2, hfz17_3⟩ := fr4 BK289; obtain ⟨hcz18_0, hcz18_1, hcz18_2, hcz18_3⟩ := ce4 BK290; obtain ⟨hfz18_0, hfz18_1, hfz18_2, hfz18_3⟩ := fr4 BK290) | ((with_reducible refine gate_callee (f := 30) rfl ?_); refine goesL_ (some 15) rfl rfl Try.func30 (by kernel_rfl) rfl #[.agg #[.int .i64 a0_0, .int .i64 a0_1, .int .i64 a0_2, .int .i64 a0_3], .agg #[.int .i64 a1_0, .int .i64 a1_1, .slice A1_2 l1_2.length c1_2, .slice A1_3 l1_3.length c1_3], .int .i64 a2] rfl (by (try simp only [List.map_toArray, List.map_cons, List.map_nil]); first | done | rfl | (simp only [List.length_drop, List.length_take]; rfl)) ?_; (with_reducible refine (sandglassref12_counts.calls k a0_0 a0_1 a0_2 a0_3 a1_0 a1_1 _ _ l1_2 _ _ l1_3 a2 t291 _ ?side1 ?side2 ?side3 ?side4 A5.out).mono ?_); (case side1 => repeat (first | exact (Kd.C_below HR1_2.out HB.out) | (with_reducible refine Kd.C_alloc ?_ _) | (with_reducible refine Kd.C_drewN ?_ _) | (with_reducible refine Kd.C_drew ?_))); (case side2 => exact HC1_2.out); (case side3 => repeat (first | exact (Kd.C_below HR1_3.out HB.out) | (with_reducible refine Kd.C_alloc ?_ _) | (with_reducible refine Kd.C_drewN ?_ _) | (with_reducible refine Kd.C_drew ?_))); (case side4 => exact HC1_3.out); rintro e w19 ⟨rfl, hb⟩; refine ⟨_, rfl, ?_⟩; replace BK289 := Aside0.mk (blk_below (bo BK289) hb); replace BK290 := Aside0.mk (blk_below (bo BK290) hb); replace HB := Aside0.mk (below_step (bl HB) hb); (try clear hb); (try clear hb2); (try clear hk); (try clear hi); obtain ⟨hcz20_0, hcz20_1, hcz20_2, hcz20_3⟩ := ce4 BK289; obtain ⟨hfz20_0, hfz20_1, hfz20_2, hfz20_3⟩ := fr4 BK289))
   go_loopg [10] k (fun kq v10 w' => ∃ (x10_1 : Int), v10 = .int .i64 x10_1 ∧ Aside0 (sandglassref12_wait.l0 kq a2 a3 (wrap64 (Int.tdiv a0_2 a0_3)) x10_1 a0_0 a0_1 a0_2 a0_3 a1_0 a1_1 l1_2 l1_3 = some r) ∧ Aside0 (kq ≤ k) ∧ Aside0 (w'.heap[gb289]? = some (.cells #[.int .i64 a0_0, .int .i64 a0_1, .int .i64 a0_2, .int .i64 a0_3] 23 (0, 0))) ∧ Aside0 (w'.heap[gb290]? = some (.cells #[.int .i64 a1_0, .int .i64 a1_1, (.slice A1_2 l1_2.length c1_2), (.slice A1_3 l1_3.length c1_3)] 27 (0, 0))) ∧ Aside0 (Below w.heap.size w w'))
   case atStart => exact ⟨(1), (by first | (with_reducible rfl) | rfl | (simp; done) | (simp [*]; done)), H', ⟨Nat.le_refl _⟩, ⟨bo BK289⟩, ⟨bo BK290⟩, ⟨bl HB⟩⟩
   case round =>
    clear H'
    try clear c6; try clear c6b0; try clear c13; try clear c13b0; try clear c13b1; try clear hcz10_0; try clear hcz10_1; try clear hcz10_2; try clear hcz10_3; try clear hcz11_0; try clear hcz11_1; try clear hcz11_2; try clear hcz11_3; try clear hcz17_0; try clear hcz17_1; try clear hcz17_2; try clear hcz17_3; try clear hcz18_0; try clear hcz18_1; try clear hcz18_2; try clear hcz18_3; try clear hcz20_0; try clear hcz20_1; try clear hcz20_2; try clear hcz20_3; try clear hfz10_0; try clear hfz10_1; try clear hfz10_2; try clear hfz10_3; try clear hfz11_0; try clear hfz11_1; try clear hfz11_2; try clear hfz11_3; try clear hfz17_0; try clear hfz17_1; try clear hfz17_2; try clear hfz17_3; try clear hfz18_0; try clear hfz18_1; try clear hfz18_2; try clear hfz18_3; try clear hfz20_0; try clear hfz20_1; try clear hfz20_2; try clear hfz20_3
    obtain ⟨x10_1, rfl, HA, HK1, BK289, BK290, HB⟩ := hrel
    cases gk with
    | zero => exact absurd HA.out (by simp [sandglassref12_wait.l0])
    | succ k1 =>
     have H := HA.out
     clear HA
     simp only [sandglassref12_wait.l0] at H
     by_cases c21 : x10_1 < a0_3
     ·rw [if_pos c21] at H
      have c21b0 : decide (x10_1 < a0_3) = true := decide_eq_true c21
      clear c21
      replace H := Option.bind_eq_some_iff.mp H
      obtain ⟨t292, A220, H⟩ := H
      have A22 := Aside0.mk A220
      clear A220
      replace H := Option.bind_eq_some_iff.mp H
      obtain ⟨t293, A230, H⟩ := H
      have A23 := Aside0.mk A230
      clear A230
      by_cases c24 : t293 ≤ a3
      ·rw [if_pos c24] at H
       have c24b0 : decide (t293 ≤ a3) = true := decide_eq_true c24
       clear c24
       obtain rfl := Option.some.inj H
       have hnb25 := NB289_290.out
       have hnc25 := NB290_289.out
       obtain ⟨hcz26_0, hcz26_1, hcz26_2, hcz26_3⟩ := ce4 BK289
       obtain ⟨hfz26_0, hfz26_1, hfz26_2, hfz26_3⟩ := fr4 BK289
       go_wp2_with (first | ((with_reducible refine gate_callee (f := 28) rfl ?_); refine goesL_ (some 32) rfl rfl Try.func28 (by kernel_rfl) rfl #[.agg #[.int .i64 a0_0, .int .i64 a0_1, .int .i64 a0_2, .int .i64 a0_3], .int .i64 a2] rfl (by (try simp only [List.map_toArray, List.map_cons, List.map_nil]); first | done | rfl | (simp only [List.length_drop, List.length_take]; rfl)) ?_; (with_reducible refine (sandglassref12_number.calls a0_0 a0_1 a0_2 a0_3 a2 t292 _ A22.out).mono ?_); rintro e w27 ⟨rfl, hb⟩; refine ⟨_, rfl, ?_⟩; replace BK289 := Aside0.mk (blk_below (bo BK289) hb); replace BK290 := Aside0.mk (blk_below (bo BK290) hb); replace HB := Aside0.mk (below_step (bl HB) hb); (try clear hb); (try clear hb2); (try clear hk); (try clear hi); obtain ⟨hcz28_0, hcz28_1, hcz28_2, hcz28_3⟩ := ce4 BK289; obtain ⟨hfz28_0, hfz28_1, hfz28_2, hfz28_3⟩ := fr4 BK289; obtain ⟨hcz29_0, hcz29_1, hcz29_2, hcz29_3⟩ := ce4 BK290; obtain ⟨hfz29_0, hfz29_1, hfz29_2, hfz29_3⟩ := fr4 BK290) | ((with_reducible refine gate_callee (f := 30) rfl ?_); refine goesL_ (some 39) rfl rfl Try.func30 (by kernel_rfl) rfl #[.agg #[.int .i64 a0_0, .int .i64 a0_1, .int .i64 a0_2, .int .i64 a0_3], .agg #[.int .i64 a1_0, .int .i64 a1_1, .slice A1_2 l1_2.length c1_2, .slice A1_3 l1_3.length c1_3], .int .i64 (wrap64 ((wrap64 (Int.tdiv a0_2 a0_3)) * (wrap64 (t292 + x10_1))))] rfl (by (try simp only [List.map_toArray, List.map_cons, List.map_nil]); first | done | rfl | (simp only [List.length_drop, List.length_take]; rfl)) ?_; (with_reducible refine (sandglassref12_counts.calls k1 a0_0 a0_1 a0_2 a0_3 a1_0 a1_1 _ _ l1_2 _ _ l1_3 (wrap64 ((wrap64 (Int.tdiv a0_2 a0_3)) * (wrap64 (t292 + x10_1)))) t293 _ ?side1 ?side2 ?side3 ?side4 A23.out).mono ?_); (case side1 => repeat (first | exact (Kd.C_below HR1_2.out HB.out) | (with_reducible refine Kd.C_alloc ?_ _) | (with_reducible refine Kd.C_drewN ?_ _) | (with_reducible refine Kd.C_drew ?_))); (case side2 => exact HC1_2.out); (case side3 => repeat (first | exact (Kd.C_below HR1_3.out HB.out) | (with_reducible refine Kd.C_alloc ?_ _) | (with_reducible refine Kd.C_drewN ?_ _) | (with_reducible refine Kd.C_drew ?_))); (case side4 => exact HC1_3.out); rintro e w30 ⟨rfl, hb⟩; refine ⟨_, rfl, ?_⟩; replace BK289 := Aside0.mk (blk_below (bo BK289) hb); replace BK290 := Aside0.mk (blk_below (bo BK290) hb); replace HB := Aside0.mk (below_step (bl HB) hb); (try clear hb); (try clear hb2); (try clear hk); (try clear hi)))
       go_ret
       exact ⟨by first | (with_reducible rfl) | rfl | (simp [errW_none, errW_some] <;> rfl) | (simp [*, errW_none, errW_some] <;> rfl), bl HB⟩
      ·rw [if_neg c24] at H
       have c24b0 : decide (t293 ≤ a3) = false := decide_eq_false c24
       clear c24
       have H' := Aside0.mk H
       clear H
       have hnb31 := NB289_290.out
       have hnc31 := NB290_289.out
       obtain ⟨hcz32_0, hcz32_1, hcz32_2, hcz32_3⟩ := ce4 BK289
       obtain ⟨hfz32_0, hfz32_1, hfz32_2, hfz32_3⟩ := fr4 BK289
       go_wp2_with (first | ((with_reducible refine gate_callee (f := 28) rfl ?_); refine goesL_ (some 32) rfl rfl Try.func28 (by kernel_rfl) rfl #[.agg #[.int .i64 a0_0, .int .i64 a0_1, .int .i64 a0_2, .int .i64 a0_3], .int .i64 a2] rfl (by (try simp only [List.map_toArray, List.map_cons, List.map_nil]); first | done | rfl | (simp only [List.length_drop, List.length_take]; rfl)) ?_; (with_reducible refine (sandglassref12_number.calls a0_0 a0_1 a0_2 a0_3 a2 t292 _ A22.out).mono ?_); rintro e w33 ⟨rfl, hb⟩; refine ⟨_, rfl, ?_⟩; replace BK289 := Aside0.mk (blk_below (bo BK289) hb); replace BK290 := Aside0.mk (blk_below (bo BK290) hb); replace HB := Aside0.mk (below_step (bl HB) hb); (try clear hb); (try clear hb2); (try clear hk); (try clear hi); obtain ⟨hcz34_0, hcz34_1, hcz34_2, hcz34_3⟩ := ce4 BK289; obtain ⟨hfz34_0, hfz34_1, hfz34_2, hfz34_3⟩ := fr4 BK289; obtain ⟨hcz35_0, hcz35_1, hcz35_2, hcz35_3⟩ := ce4 BK290; obtain ⟨hfz35_0, hfz35_1, hfz35_2, hfz35_3⟩ := fr4 BK290) | ((with_reducible refine gate_callee (f := 30) rfl ?_); refine goesL_ (some 39) rfl rfl Try.func30 (by kernel_rfl) rfl #[.agg #[.int .i64 a0_0, .int .i64 a0_1, .int .i64 a0_2, .int .i64 a0_3], .agg #[.int .i64 a1_0, .int .i64 a1_1, .slice A1_2 l1_2.length c1_2, .slice A1_3 l1_3.length c1_3], .int .i64 (wrap64 ((wrap64 (Int.tdiv a0_2 a0_3)) * (wrap64 (t292 + x10_1))))] rfl (by (try simp only [List.map_toArray, List.map_cons, List.map_nil]); first | done | rfl | (simp only [List.length_drop, List.length_take]; rfl)) ?_; (with_reducible refine (sandglassref12_counts.calls k1 a0_0 a0_1 a0_2 a0_3 a1_0 a1_1 _ _ l1_2 _ _ l1_3 (wrap64 ((wrap64 (Int.tdiv a0_2 a0_3)) * (wrap64 (t292 + x10_1)))) t293 _ ?side1 ?side2 ?side3 ?side4 A23.out).mono ?_); (case side1 => repeat (first | exact (Kd.C_below HR1_2.out HB.out) | (with_reducible refine Kd.C_alloc ?_ _) | (with_reducible refine Kd.C_drewN ?_ _) | (with_reducible refine Kd.C_drew ?_))); (case side2 => exact HC1_2.out); (case side3 => repeat (first | exact (Kd.C_below HR1_3.out HB.out) | (with_reducible refine Kd.C_alloc ?_ _) | (with_reducible refine Kd.C_drewN ?_ _) | (with_reducible refine Kd.C_drew ?_))); (case side4 => exact HC1_3.out); rintro e w36 ⟨rfl, hb⟩; refine ⟨_, rfl, ?_⟩; replace BK289 := Aside0.mk (blk_below (bo BK289) hb); replace BK290 := Aside0.mk (blk_below (bo BK290) hb); replace HB := Aside0.mk (below_step (bl HB) hb); (try clear hb); (try clear hb2); (try clear hk); (try clear hi)))
       go_roundg k1
       case measure => have := HK1.out; omega
       case rel => exact ⟨(wrap64 (x10_1 + 1)), (by first | (with_reducible rfl) | rfl | (simp; done) | (simp [*]; done)), H', ⟨by have := HK1.out; omega⟩, ⟨bo BK289⟩, ⟨bo BK290⟩, ⟨bl HB⟩⟩
     ·rw [if_neg c21] at H
      have c21b0 : decide (x10_1 < a0_3) = false := decide_eq_false c21
      clear c21
      replace H := Option.bind_eq_some_iff.mp H
      obtain ⟨t294, A370, H⟩ := H
      have A37 := Aside0.mk A370
      clear A370
      obtain rfl := Option.some.inj H
      have hnb38 := NB289_290.out
      have hnc38 := NB290_289.out
      obtain ⟨hcz39_0, hcz39_1, hcz39_2, hcz39_3⟩ := ce4 BK289
      obtain ⟨hfz39_0, hfz39_1, hfz39_2, hfz39_3⟩ := fr4 BK289
      try go_wp2
      replace BK289 := Aside0.mk (blk_drew BK289.out)
      replace BK290 := Aside0.mk (blk_drew BK290.out)
      replace HB := Aside0.mk (below_drew1 HB.out)
      refine start_ (n := 11) (S := fun w' => w'.cell? ⟨gb289, 0, none⟩ = some (.int .i64 a0_0) ∧ w'.cell? ⟨gb289, 1, none⟩ = some (.int .i64 a0_1) ∧ w'.cell? ⟨gb289, 2, none⟩ = some (.int .i64 a0_2) ∧ w'.cell? ⟨gb289, 3, none⟩ = some (.int .i64 a0_3)) (ds := []) #[false, false, false, false, false, false, false, false, false, false, false] (by kernel_rfl) rfl rfl ⟨(blk_cell BK289.out 0).trans rfl, (blk_cell BK289.out 1).trans rfl, (blk_cell BK289.out 2).trans rfl, (blk_cell BK289.out 3).trans rfl⟩ (fun hHeld => ?_); refine with_tabW sandglassref12_wait.tab10 sandglassref12_wait.bits10 (fun HT_ HW_ => ?_)
      generalize wr.drew = w40 at BK289 BK290 HB hHeld ⊢
      refine pureA 0 45 HT_ ?_
      refine pureA 2 47 HT_ ?_
      refine pureA 4 49 HT_ ?_
      refine pureA 8 53 HT_ ?_
      refine takeA 1 46 HT_ HW_ hHeld ?_
      refine takeA 5 50 HT_ HW_ hHeld ?_
      refine one_ (i := 3) (N := some 48) #[true, true, true, true, true, true, false, false, true, false, false] rfl rfl (one_of HT_.out (by kernel_rfl)) (by decide) (fun K hK => ?_)
      refine goes_ Try.func28 (by kernel_rfl) rfl #[.agg #[.int .i64 a0_0, .int .i64 a0_1, .int .i64 a0_2, .int .i64 a0_3], .int .i64 a2] (by rfl) rfl rfl (by (try simp only [List.map_toArray, List.map_cons, List.map_nil]); first | done | rfl | (simp only [List.length_drop, List.length_take]; rfl)) ?_
      with_reducible refine (sandglassref12_number.calls a0_0 a0_1 a0_2 a0_3 a2 t294 _ A37.out).mono ?_
      rintro e w41 ⟨rfl, hb⟩
      refine ⟨_, rfl, ?_⟩
      replace BK289 := Aside0.mk (blk_below (bo BK289) hb)
      replace BK290 := Aside0.mk (blk_below (bo BK290) hb)
      replace HB := Aside0.mk (below_step (bl HB) hb)
      (try clear hb)
      (try clear hb2)
      (try clear hk)
      (try clear hi)
      refine hK.out _ _ ⟨(blk_cell BK289.out 0).trans rfl, (blk_cell BK289.out 1).trans rfl, (blk_cell BK289.out 2).trans rfl, (blk_cell BK289.out 3).trans rfl⟩ (fun hHeld => ?_)
      clear hK K
      refine norm_ (a' := ?_) ?_ ?_
      rotate_left
      ·show Act.put _ (some 48) _ = _
       simp only [Act.put, List.setIfInBounds_toArray, List.set_cons_zero, List.set_cons_succ, i64_w, i32_w]
       rfl
      refine pureA 6 51 HT_ ?_
      refine pureA 7 52 HT_ ?_
      refine pureA 9 54 HT_ ?_
      refine pureA 10 8 HT_ ?_
      refine done_ (done_of HT_.out (by kernel_rfl)) ?_
      try go_wp2
      go_ret
      exact ⟨by first | (with_reducible rfl) | rfl | (simp [errW_none, errW_some] <;> rfl) | (simp [*, errW_none, errW_some] <;> rfl), bl HB⟩

end Go.Proofs.Ytalcmlgkdkbbaaa.Q
