-- Laid by wip/tools/hprint.py, a program of this repo, over the kit's print; not a text of print.sh.
import Derived.Test.YtalcmlgkdkbbaaaQ0
import Derived.Test.YtalcmlgkdkbbaaaQ22
import Derived.Test.YtalcmlgkdkbbaaaQ25
namespace Go.Proofs.Ytalcmlgkdkbbaaa.Q
open Go.RowKit Go.Proofs.Ytalcmlgkdkbbaaa.Zip Go.Proofs.YtalcmlgkdkbbaaaW.PrintWords Go.Proofs.YtalcmlgkdkbbaaaW.PrintLast Go.Proofs.YtalcmlgkdkbbaaaW.PrintMore
attribute [local go_sem] max2_int min2_int max_two min_two max_three min_three max_four min_four   -- for this text's walks alone
set_option linter.unusedVariables false
set_option linter.unusedSimpArgs false

/-! ### sandglassref12_counts: function 30 -/
mutual
def sandglassref12_counts.l0 : Nat → Int → Int → Int → Int → Int → Int → Int → Int → Int → Int → List Int → List (S54) → Option (Int)
  | 0, _, _, _, _, _, _, _, _, _, _, _, _ => none
  | k + 1, x7, x8, x9, x10, x285000, x285001, x285002, x285003, x286000, x286001, x286002, x286003 => if x10 ≤ x7 then (sandglassref12_counts.j1 k x7 x8 x9 x10 (decide (x10 < (wrap64 (x8 + x285003)))) x285000 x285001 x285002 x285003 x286000 x286001 x286002 x286003) else (sandglassref12_counts.j1 k x7 x8 x9 x10 false x285000 x285001 x285002 x285003 x286000 x286001 x286002 x286003)
def sandglassref12_counts.j1 : Nat → Int → Int → Int → Int → Bool → Int → Int → Int → Int → Int → Int → List Int → List (S54) → Option (Int)
  | 0, _, _, _, _, _, _, _, _, _, _, _, _, _ => none
  | k + 1, x7, x8, x9, x10, x39, x285000, x285001, x285002, x285003, x286000, x286001, x286002, x286003 => if x39 = true then ((sandglassref12_in.f k x285000 x285001 x285002 x285003 x286000 x286001 x286002 x286003 x10).bind fun t288 => (sandglassref12_counts.l0 k x7 x8 (wrap64 (x9 + t288)) (wrap64 (x10 + 1)) x285000 x285001 x285002 x285003 x286000 x286001 x286002 x286003)) else (some x9)
end
def sandglassref12_counts.f (k : Nat) (a0_0 : Int) (a0_1 : Int) (a0_2 : Int) (a0_3 : Int) (a1_0 : Int) (a1_1 : Int) (l1_2 : List Int) (l1_3 : List (S54)) (a2 : Int) : Option (Int) := (sandglassref12_number.f a0_0 a0_1 a0_2 a0_3 a2).bind fun t286 => ((sandglassref12_number.f a0_0 a0_1 a0_2 a0_3 a1_0).bind fun t287 => (sandglassref12_counts.l0 k t286 (mx (wrap64 ((wrap64 (t286 - a0_3)) + 1)) (wrap64 ((wrap64 (t287 - a0_3)) + 1))) 0 (mx (wrap64 ((wrap64 (t286 - a0_3)) + 1)) (wrap64 ((wrap64 (t287 - a0_3)) + 1))) a0_0 a0_1 a0_2 a0_3 a1_0 a1_1 l1_2 l1_3))
theorem sandglassref12_counts.mono_l : ∀ k, (∀ y0 y1 y2 y3 y4 y5 y6 y7 y8 y9 y10 y11, LeO (sandglassref12_counts.l0 k y0 y1 y2 y3 y4 y5 y6 y7 y8 y9 y10 y11) (sandglassref12_counts.l0 (k + 1) y0 y1 y2 y3 y4 y5 y6 y7 y8 y9 y10 y11)) ∧ (∀ y0 y1 y2 y3 y4 y5 y6 y7 y8 y9 y10 y11 y12, LeO (sandglassref12_counts.j1 k y0 y1 y2 y3 y4 y5 y6 y7 y8 y9 y10 y11 y12) (sandglassref12_counts.j1 (k + 1) y0 y1 y2 y3 y4 y5 y6 y7 y8 y9 y10 y11 y12))
  | 0 => ⟨fun _ _ _ _ _ _ _ _ _ _ _ _ r h => by simp [sandglassref12_counts.l0] at h, fun _ _ _ _ _ _ _ _ _ _ _ _ _ r h => by simp [sandglassref12_counts.j1] at h⟩
  | k + 1 => by
    obtain ⟨ih0, ih1⟩ := sandglassref12_counts.mono_l k
    refine ⟨?_, ?_⟩
    · intro y0 y1 y2 y3 y4 y5 y6 y7 y8 y9 y10 y11
      unfold sandglassref12_counts.l0
      repeat' first
      | (with_reducible exact ih0 _ _ _ _ _ _ _ _ _ _ _ _)
      | (with_reducible exact ih1 _ _ _ _ _ _ _ _ _ _ _ _ _)
      | (with_reducible exact sandglassref12_in.mono _ _ _ _ _ _ _ _ _ _)
      | (with_reducible exact LeO.refl _)
      | (with_reducible exact LeO.none _)
      | (with_reducible refine LeO.ite ?_ ?_)
      | (with_reducible refine LeO.bind ?_ (fun _ => ?_))
      | exact ih0 _ _ _ _ _ _ _ _ _ _ _ _
      | exact ih1 _ _ _ _ _ _ _ _ _ _ _ _ _
      | exact sandglassref12_in.mono _ _ _ _ _ _ _ _ _ _
      | exact LeO.none _
      | refine LeO.ite ?_ ?_
      | refine LeO.bind ?_ (fun _ => ?_)
    · intro y0 y1 y2 y3 y4 y5 y6 y7 y8 y9 y10 y11 y12
      unfold sandglassref12_counts.j1
      repeat' first
      | (with_reducible exact ih0 _ _ _ _ _ _ _ _ _ _ _ _)
      | (with_reducible exact ih1 _ _ _ _ _ _ _ _ _ _ _ _ _)
      | (with_reducible exact sandglassref12_in.mono _ _ _ _ _ _ _ _ _ _)
      | (with_reducible exact LeO.refl _)
      | (with_reducible exact LeO.none _)
      | (with_reducible refine LeO.ite ?_ ?_)
      | (with_reducible refine LeO.bind ?_ (fun _ => ?_))
      | exact ih0 _ _ _ _ _ _ _ _ _ _ _ _
      | exact ih1 _ _ _ _ _ _ _ _ _ _ _ _ _
      | exact sandglassref12_in.mono _ _ _ _ _ _ _ _ _ _
      | exact LeO.none _
      | refine LeO.ite ?_ ?_
      | refine LeO.bind ?_ (fun _ => ?_)
theorem sandglassref12_counts.mono : ∀ a0 a1 a2 a3 a4 a5 a6 a7 a8 k, LeO (sandglassref12_counts.f k a0 a1 a2 a3 a4 a5 a6 a7 a8) (sandglassref12_counts.f (k + 1) a0 a1 a2 a3 a4 a5 a6 a7 a8) := by
  intro a0 a1 a2 a3 a4 a5 a6 a7 a8 k
  obtain ⟨ih0, ih1⟩ := sandglassref12_counts.mono_l k
  unfold sandglassref12_counts.f
  repeat' first
      | (with_reducible exact ih0 _ _ _ _ _ _ _ _ _ _ _ _)
      | (with_reducible exact ih1 _ _ _ _ _ _ _ _ _ _ _ _ _)
      | (with_reducible exact sandglassref12_in.mono _ _ _ _ _ _ _ _ _ _)
      | (with_reducible exact LeO.refl _)
      | (with_reducible exact LeO.none _)
      | (with_reducible refine LeO.ite ?_ ?_)
      | (with_reducible refine LeO.bind ?_ (fun _ => ?_))
      | exact ih0 _ _ _ _ _ _ _ _ _ _ _ _
      | exact ih1 _ _ _ _ _ _ _ _ _ _ _ _ _
      | exact sandglassref12_in.mono _ _ _ _ _ _ _ _ _ _
      | exact LeO.none _
      | refine LeO.ite ?_ ?_
      | refine LeO.bind ?_ (fun _ => ?_)
def sandglassref12_counts.T2 : Bool × List (List Nat × List Nat) := (true, [([], []), ([], []), ([1], [1]), ([0, 2], [0, 2]), ([3], [3]), ([], []), ([], []), ([6], [6]), ([5, 7], [5, 7]), ([], []), ([9], [9]), ([8, 10], [8, 10]), ([11], [11]), ([4, 12], [4, 12]), ([13, 8, 0, 1, 2, 3, 4, 5, 6, 7, 8, 9, 10, 11, 12, 13], [13])])
def sandglassref12_counts.B2 : List Nat := [0, 0, 2, 7, 15, 0, 0, 64, 224, 0, 512, 2016, 4064, 8191, 16383]
theorem sandglassref12_counts.tab2 : rtab .any (opsOf Try.f30 2) = sandglassref12_counts.T2 := by kernel_rfl
theorem sandglassref12_counts.bits2 : waitsOk sandglassref12_counts.T2.2 sandglassref12_counts.B2 = true := by kernel_rfl
set_option maxHeartbeats 8000000 in
set_option maxRecDepth 100000 in
theorem sandglassref12_counts.calls (k : Nat) (a0_0 : Int) (a0_1 : Int) (a0_2 : Int) (a0_3 : Int) (a1_0 : Int) (a1_1 : Int) (A1_2 : Option Addr) (c1_2 : Nat) (l1_2 : List Int) (A1_3 : Option Addr) (c1_3 : Nat) (l1_3 : List (S54)) (a2 : Int) (r : Int) (w : World) (hr1_2 : Kd.C (Kd.int .i64) w A1_2 l1_2.length l1_2) (hc1_2 : l1_2.length ≤ c1_2) (hr1_3 : Kd.C k54 w A1_3 l1_3.length l1_3) (hc1_3 : l1_3.length ≤ c1_3) (h : sandglassref12_counts.f k a0_0 a0_1 a0_2 a0_3 a1_0 a1_1 l1_2 l1_3 a2 = some r) :
  Calls Try.prog 30 #[.agg #[.int .i64 a0_0, .int .i64 a0_1, .int .i64 a0_2, .int .i64 a0_3], .agg #[.int .i64 a1_0, .int .i64 a1_1, .slice A1_2 l1_2.length c1_2, .slice A1_3 l1_3.length c1_3], .int .i64 a2] w fun e w' => e = .returned (.int .i64 r) ∧ Below w.heap.size w w' := by
 have hu23 := Try.underlying23
 have hu27 := Try.underlying27
 have HR1_2 := Aside0.mk hr1_2
 have HC1_2 := Aside0.mk hc1_2
 clear hr1_2 hc1_2
 have HR1_3 := Aside0.mk hr1_3
 have HC1_3 := Aside0.mk hc1_3
 clear hr1_3 hc1_3
 have HB := Aside0.mk (Below.refl w.heap.size w)
 have H : ((sandglassref12_number.f a0_0 a0_1 a0_2 a0_3 a2).bind fun t286 => ((sandglassref12_number.f a0_0 a0_1 a0_2 a0_3 a1_0).bind fun t287 => (sandglassref12_counts.l0 k t286 (mx (wrap64 ((wrap64 (t286 - a0_3)) + 1)) (wrap64 ((wrap64 (t287 - a0_3)) + 1))) 0 (mx (wrap64 ((wrap64 (t286 - a0_3)) + 1)) (wrap64 ((wrap64 (t287 - a0_3)) + 1))) a0_0 a0_1 a0_2 a0_3 a1_0 a1_1 l1_2 l1_3))) = some r := h
 clear h
 replace H := Option.bind_eq_some_iff.mp H
 obtain ⟨t286, A40, H⟩ := H
 have A4 := Aside0.mk A40
 clear A40
 replace H := Option.bind_eq_some_iff.mp H
 obtain ⟨t287, A50, H⟩ := H
 have A5 := Aside0.mk A50
 clear A50
 obtain ⟨ji6, hji6⟩ : ∃ j_ : Int, (mx (wrap64 ((wrap64 (t286 - a0_3)) + 1)) (wrap64 ((wrap64 (t287 - a0_3)) + 1))) = j_ := ⟨_, rfl⟩
 replace H : (sandglassref12_counts.l0 k t286 ji6 0 ji6 a0_0 a0_1 a0_2 a0_3 a1_0 a1_1 l1_2 l1_3) = some r := by first | (rw [hji6] at H; exact H) | (simp only [hji6] at H ⊢; exact H)
 (try rw [hji6] at A4)
 (try rw [hji6] at A5)
 have hji6_ : (if (wrap64 ((wrap64 (t286 - a0_3)) + 1)) < (wrap64 ((wrap64 (t287 - a0_3)) + 1)) then (wrap64 ((wrap64 (t287 - a0_3)) + 1)) else (wrap64 ((wrap64 (t286 - a0_3)) + 1))) = ji6 := hji6
 have H' := Aside0.mk H
 clear H
 go_enter Try.func30, Try.ntmps30
 try go_wp2_with (first | ((with_reducible refine gate_dst (N := 3) rfl ?_); refine box_event ?hg (N := 3) ?hd (cs := #[.int .i64 a0_0, .int .i64 a0_1, .int .i64 a0_2, .int .i64 a0_3]) (t := 23) ?hr ?_; (case hd => rfl); (case hg => rfl); (case hr => first | (go_simp; done) | (go_simp; rfl)); intro gb284 hg w7 hbox hb; have BK284 := Aside0.mk (hbox); have GW284 := Aside0.mk ((by rw [hg]; exact (below_size (bl HB)) : w.heap.size ≤ gb284)); have GE284 := Aside0.mk ((by rw [hg]; exact (below_size (bl HB)) : w.heap.size ≤ gb284)); replace HB := Aside0.mk (below_step (bl HB) hb); clear hb hbox hg) | ((with_reducible refine gate_dst (N := 4) rfl ?_); refine box_event ?hg (N := 4) ?hd (cs := #[.int .i64 a1_0, .int .i64 a1_1, .slice A1_2 l1_2.length c1_2, .slice A1_3 l1_3.length c1_3]) (t := 27) ?hr ?_; (case hd => rfl); (case hg => rfl); (case hr => first | (go_simp; done) | (go_simp; rfl)); intro gb285 hg w8 hbox hb; have BK285 := Aside0.mk (hbox); have GW285 := Aside0.mk ((by rw [hg]; exact (below_size (bl HB)) : w.heap.size ≤ gb285)); have GE285 := Aside0.mk ((by rw [hg]; exact (below_size (bl HB)) : w.heap.size ≤ gb285)); have NB284_285 := nb BK284 hg; have NB285_284 := bn BK284 hg; replace BK284 := Aside0.mk (blk_below (bo BK284) hb); replace HB := Aside0.mk (below_step (bl HB) hb); clear hb hbox hg; have hnb9 := NB284_285.out; have hnc9 := NB285_284.out; obtain ⟨hcz10_0, hcz10_1, hcz10_2, hcz10_3⟩ := ce4 BK284; obtain ⟨hfz10_0, hfz10_1, hfz10_2, hfz10_3⟩ := fr4 BK284) | ((with_reducible refine gate_callee (f := 28) rfl ?_); refine goesL_ (some 13) rfl rfl Try.func28 (by kernel_rfl) rfl #[.agg #[.int .i64 a0_0, .int .i64 a0_1, .int .i64 a0_2, .int .i64 a0_3], .int .i64 a2] rfl (by (try simp only [List.map_toArray, List.map_cons, List.map_nil]); first | done | rfl | (simp only [List.length_drop, List.length_take]; rfl)) ?_; (with_reducible refine (sandglassref12_number.calls a0_0 a0_1 a0_2 a0_3 a2 t286 _ A4.out).mono ?_); rintro e w11 ⟨rfl, hb⟩; refine ⟨_, rfl, ?_⟩; replace BK284 := Aside0.mk (blk_below (bo BK284) hb); replace BK285 := Aside0.mk (blk_below (bo BK285) hb); replace HB := Aside0.mk (below_step (bl HB) hb); (try clear hb); (try clear hb2); (try clear hk); (try clear hi)))
 replace BK284 := Aside0.mk (blk_drew BK284.out)
 replace BK285 := Aside0.mk (blk_drew BK285.out)
 replace HB := Aside0.mk (below_drew1 HB.out)
 refine start_ (n := 15) (S := fun w' => w'.cell? ⟨gb284, 0, none⟩ = some (.int .i64 a0_0) ∧ w'.cell? ⟨gb284, 1, none⟩ = some (.int .i64 a0_1) ∧ w'.cell? ⟨gb284, 2, none⟩ = some (.int .i64 a0_2) ∧ w'.cell? ⟨gb284, 3, none⟩ = some (.int .i64 a0_3) ∧ w'.cell? ⟨gb285, 0, none⟩ = some (.int .i64 a1_0) ∧ w'.cell? ⟨gb285, 1, none⟩ = some (.int .i64 a1_1) ∧ w'.cell? ⟨gb285, 2, none⟩ = some (.slice A1_2 l1_2.length c1_2) ∧ w'.cell? ⟨gb285, 3, none⟩ = some (.slice A1_3 l1_3.length c1_3)) (ds := []) #[false, false, false, false, false, false, false, false, false, false, false, false, false, false, false] (by kernel_rfl) rfl rfl ⟨(blk_cell BK284.out 0).trans rfl, (blk_cell BK284.out 1).trans rfl, (blk_cell BK284.out 2).trans rfl, (blk_cell BK284.out 3).trans rfl, (blk_cell BK285.out 0).trans rfl, (blk_cell BK285.out 1).trans rfl, (blk_cell BK285.out 2).trans rfl, (blk_cell BK285.out 3).trans rfl⟩ (fun hHeld => ?_); refine with_tabW sandglassref12_counts.tab2 sandglassref12_counts.bits2 (fun HT_ HW_ => ?_)
 generalize w11.drew = w12 at BK284 BK285 HB hHeld ⊢
 refine pureA 0 14 HT_ ?_
 refine pureA 1 15 HT_ ?_
 refine pureA 6 20 HT_ ?_
 refine pureA 9 23 HT_ ?_
 refine takeA 2 16 HT_ HW_ hHeld ?_
 refine pureA 3 17 HT_ ?_
 refine pureA 4 18 HT_ ?_
 refine takeA 5 19 HT_ HW_ hHeld ?_
 refine takeA 7 21 HT_ HW_ hHeld ?_
 refine takeA 10 24 HT_ HW_ hHeld ?_
 refine one_ (i := 8) (N := some 22) #[true, true, true, true, true, true, true, true, true, true, true, false, false, false, false] rfl rfl (one_of HT_.out (by kernel_rfl)) (by decide) (fun K hK => ?_)
 refine goes_ Try.func28 (by kernel_rfl) rfl #[.agg #[.int .i64 a0_0, .int .i64 a0_1, .int .i64 a0_2, .int .i64 a0_3], .int .i64 a1_0] (by rfl) rfl rfl (by (try simp only [List.map_toArray, List.map_cons, List.map_nil]); first | done | rfl | (simp only [List.length_drop, List.length_take]; rfl)) ?_
 with_reducible refine (sandglassref12_number.calls a0_0 a0_1 a0_2 a0_3 a1_0 t287 _ A5.out).mono ?_
 rintro e w13 ⟨rfl, hb⟩
 refine ⟨_, rfl, ?_⟩
 replace BK284 := Aside0.mk (blk_below (bo BK284) hb)
 replace BK285 := Aside0.mk (blk_below (bo BK285) hb)
 replace HB := Aside0.mk (below_step (bl HB) hb)
 (try clear hb)
 (try clear hb2)
 (try clear hk)
 (try clear hi)
 refine hK.out _ _ ⟨(blk_cell BK284.out 0).trans rfl, (blk_cell BK284.out 1).trans rfl, (blk_cell BK284.out 2).trans rfl, (blk_cell BK284.out 3).trans rfl, (blk_cell BK285.out 0).trans rfl, (blk_cell BK285.out 1).trans rfl, (blk_cell BK285.out 2).trans rfl, (blk_cell BK285.out 3).trans rfl⟩ (fun hHeld => ?_)
 clear hK K
 refine norm_ (a' := ?_) ?_ ?_
 rotate_left
 ·show Act.put _ (some 22) _ = _
  simp only [Act.put, List.setIfInBounds_toArray, List.set_cons_zero, List.set_cons_succ, i64_w, i32_w]
  rfl
 refine pureA 11 25 HT_ ?_
 refine pureA 12 26 HT_ ?_
 refine pureA 13 27 HT_ ?_
 refine pureA 14 8 HT_ ?_
 refine done_ (done_of HT_.out (by kernel_rfl)) ?_
 try go_wp2
 go_loopg [9, 10] k (fun kq v9 v10 w' => ∃ (x9_1 : Int) (x10_1 : Int), v9 = .int .i64 x9_1 ∧ v10 = .int .i64 x10_1 ∧ Aside0 (sandglassref12_counts.l0 kq t286 ji6 x9_1 x10_1 a0_0 a0_1 a0_2 a0_3 a1_0 a1_1 l1_2 l1_3 = some r) ∧ Aside0 (kq ≤ k) ∧ Aside0 (w'.heap[gb284]? = some (.cells #[.int .i64 a0_0, .int .i64 a0_1, .int .i64 a0_2, .int .i64 a0_3] 23 (0, 0))) ∧ Aside0 (w'.heap[gb285]? = some (.cells #[.int .i64 a1_0, .int .i64 a1_1, (.slice A1_2 l1_2.length c1_2), (.slice A1_3 l1_3.length c1_3)] 27 (0, 0))) ∧ Aside0 (Below w.heap.size w w'))
 case atStart => exact ⟨(0), (ji6), (by first | (with_reducible rfl) | (simp only [← hji6]; with_reducible rfl) | (simp only [← hji6]; done) | rfl | (simp; done) | (simp [*]; done)), (by first | (with_reducible rfl) | (simp only [← hji6]; with_reducible rfl) | (simp only [← hji6]; done) | rfl | (simp; done) | (simp only [← hji6] <;> (first | rfl | simp)) | (simp [*]; done)), H', ⟨Nat.le_refl _⟩, ⟨bo BK284⟩, ⟨bo BK285⟩, ⟨bl HB⟩⟩
 case round =>
  clear H'
  try clear hcz10_0; try clear hcz10_1; try clear hcz10_2; try clear hcz10_3; try clear hfz10_0; try clear hfz10_1; try clear hfz10_2; try clear hfz10_3
  obtain ⟨x9_1, x10_1, rfl, rfl, HA, HK1, BK284, BK285, HB⟩ := hrel
  cases gk with
  | zero => exact absurd HA.out (by simp [sandglassref12_counts.l0])
  | succ k1 =>
   have H := HA.out
   clear HA
   simp only [sandglassref12_counts.l0] at H
   have HC14 := Aside0.mk H
   clear H
   go_upto_region 5 with (fail)
   go_cut [39] (fun v39 wc => ∃ (kq : Nat) (x39_13 : Bool), v39 = .bool x39_13 ∧ Aside0 (sandglassref12_counts.j1 kq t286 ji6 x9_1 x10_1 x39_13 a0_0 a0_1 a0_2 a0_3 a1_0 a1_1 l1_2 l1_3 = some r) ∧ Aside0 (kq ≤ k1) ∧ Aside0 (wc.heap[gb284]? = some (.cells #[.int .i64 a0_0, .int .i64 a0_1, .int .i64 a0_2, .int .i64 a0_3] 23 (0, 0))) ∧ Aside0 (wc.heap[gb285]? = some (.cells #[.int .i64 a1_0, .int .i64 a1_1, (.slice A1_2 l1_2.length c1_2), (.slice A1_3 l1_3.length c1_3)] 27 (0, 0))) ∧ Aside0 (Below w.heap.size w wc))
   case first =>
    have H := HC14.out
    clear HC14
    by_cases c15 : x10_1 ≤ t286
    ·rw [if_pos c15] at H
     have c15b0 : decide (x10_1 ≤ t286) = true := decide_eq_true c15
     clear c15
     (first | rw [c15b0] | (simp only [i64_w, i32_w]; rw [c15b0]) | skip)
     have H' := Aside0.mk H
     clear H
     have hnb16 := NB284_285.out
     have hnc16 := NB285_284.out
     obtain ⟨hcz17_0, hcz17_1, hcz17_2, hcz17_3⟩ := ce4 BK284
     obtain ⟨hfz17_0, hfz17_1, hfz17_2, hfz17_3⟩ := fr4 BK284
     go_wp2
     go_meet
     case rel => exact ⟨_, (decide (x10_1 < (wrap64 (ji6 + a0_3)))), (by first | (with_reducible rfl) | (simp only [← hji6]; with_reducible rfl) | (simp only [← hji6]; done) | rfl | (simp; done) | (simp only [← hji6] <;> (first | rfl | simp)) | (simp [*]; done)), H', ⟨by have := HK1.out; first | omega | exact Nat.le_refl _⟩, ⟨bo BK284⟩, ⟨bo BK285⟩, ⟨bl HB⟩⟩
    ·rw [if_neg c15] at H
     have c15b0 : decide (x10_1 ≤ t286) = false := decide_eq_false c15
     clear c15
     (first | rw [c15b0] | (simp only [i64_w, i32_w]; rw [c15b0]) | skip)
     have H' := Aside0.mk H
     clear H
     go_wp2
     go_meet
     case rel => exact ⟨_, (false), (by first | (with_reducible rfl) | rfl | (simp; done) | (simp [*]; done)), H', ⟨by have := HK1.out; first | omega | exact Nat.le_refl _⟩, ⟨bo BK284⟩, ⟨bo BK285⟩, ⟨bl HB⟩⟩
   case rest =>
    clear HC14
    try clear c15; try clear c15b0; try clear hcz10_0; try clear hcz10_1; try clear hcz10_2; try clear hcz10_3; try clear hcz17_0; try clear hcz17_1; try clear hcz17_2; try clear hcz17_3; try clear hfz10_0; try clear hfz10_1; try clear hfz10_2; try clear hfz10_3; try clear hfz17_0; try clear hfz17_1; try clear hfz17_2; try clear hfz17_3
    obtain ⟨kq, x39_13, rfl, HA, HJ13, BK284, BK285, HB⟩ := hcut
    cases kq with
    | zero => exact absurd HA.out (by simp [sandglassref12_counts.j1])
    | succ kj13 =>
     have H := HA.out
     clear HA
     simp only [sandglassref12_counts.j1] at H
     by_cases c18 : x39_13 = true
     ·subst c18
      rw [if_pos rfl] at H
      replace H := Option.bind_eq_some_iff.mp H
      obtain ⟨t288, A190, H⟩ := H
      have A19 := Aside0.mk A190
      clear A190
      have H' := Aside0.mk H
      clear H
      have hnb20 := NB284_285.out
      have hnc20 := NB285_284.out
      obtain ⟨hcz21_0, hcz21_1, hcz21_2, hcz21_3⟩ := ce4 BK284
      obtain ⟨hfz21_0, hfz21_1, hfz21_2, hfz21_3⟩ := fr4 BK284
      obtain ⟨hcz22_0, hcz22_1, hcz22_2, hcz22_3⟩ := ce4 BK285
      obtain ⟨hfz22_0, hfz22_1, hfz22_2, hfz22_3⟩ := fr4 BK285
      go_wp2_with (first | ((with_reducible refine gate_callee (f := 29) rfl ?_); refine goesL_ (some 46) rfl rfl Try.func29 (by kernel_rfl) rfl #[.agg #[.int .i64 a0_0, .int .i64 a0_1, .int .i64 a0_2, .int .i64 a0_3], .agg #[.int .i64 a1_0, .int .i64 a1_1, .slice A1_2 l1_2.length c1_2, .slice A1_3 l1_3.length c1_3], .int .i64 x10_1] rfl (by (try simp only [List.map_toArray, List.map_cons, List.map_nil]); first | done | rfl | (simp only [List.length_drop, List.length_take]; rfl)) ?_; (with_reducible refine (sandglassref12_in.calls kj13 a0_0 a0_1 a0_2 a0_3 a1_0 a1_1 _ _ l1_2 _ _ l1_3 x10_1 t288 _ ?side1 ?side2 ?side3 ?side4 A19.out).mono ?_); (case side1 => repeat (first | exact (Kd.C_below HR1_2.out HB.out) | (with_reducible refine Kd.C_alloc ?_ _) | (with_reducible refine Kd.C_drewN ?_ _) | (with_reducible refine Kd.C_drew ?_))); (case side2 => exact HC1_2.out); (case side3 => repeat (first | exact (Kd.C_below HR1_3.out HB.out) | (with_reducible refine Kd.C_alloc ?_ _) | (with_reducible refine Kd.C_drewN ?_ _) | (with_reducible refine Kd.C_drew ?_))); (case side4 => exact HC1_3.out); rintro e w23 ⟨rfl, hb⟩; refine ⟨_, rfl, ?_⟩; replace BK284 := Aside0.mk (blk_below (bo BK284) hb); replace BK285 := Aside0.mk (blk_below (bo BK285) hb); replace HB := Aside0.mk (below_step (bl HB) hb); (try clear hb); (try clear hb2); (try clear hk); (try clear hi)))
      go_roundg kj13
      case measure => have := HK1.out; have := HJ13.out; omega
      case rel => exact ⟨(wrap64 (x9_1 + t288)), (wrap64 (x10_1 + 1)), (by first | (with_reducible rfl) | rfl | (simp; done) | (simp [*]; done)), (by first | (with_reducible rfl) | rfl | (simp; done) | (simp [*]; done)), H', ⟨by have := HK1.out; have := HJ13.out; omega⟩, ⟨bo BK284⟩, ⟨bo BK285⟩, ⟨bl HB⟩⟩
     ·replace c18 := Bool.eq_false_iff.mpr c18
      subst c18
      rw [if_neg (show ¬ (false = true) by decide)] at H
      obtain rfl := Option.some.inj H
      go_wp2
      go_ret
      exact ⟨by first | (with_reducible rfl) | (simp only [← hji6]; with_reducible rfl) | (simp only [← hji6]; done) | rfl | (simp [errW_none, errW_some] <;> rfl) | (simp only [← hji6]; first | rfl | (simp [errW_none, errW_some] <;> rfl)) | (simp [*, errW_none, errW_some] <;> rfl), bl HB⟩

end Go.Proofs.Ytalcmlgkdkbbaaa.Q
