-- Laid by wip/tools/hprint.py, a program of this repo, over the kit's print; not a text of print.sh.
import Derived.Test.YtalcmlgkdkbbaaaQ0
import Derived.Test.YtalcmlgkdkbbaaaQ21
import Derived.Test.YtalcmlgkdkbbaaaQ23
import Derived.Test.YtalcmlgkdkbbaaaQ26
namespace Go.Proofs.Ytalcmlgkdkbbaaa.Q
open Go.RowKit Go.Proofs.Ytalcmlgkdkbbaaa.Zip Go.Proofs.YtalcmlgkdkbbaaaW.PrintWords Go.Proofs.YtalcmlgkdkbbaaaW.PrintLast Go.Proofs.YtalcmlgkdkbbaaaW.PrintMore
attribute [local go_sem] max2_int min2_int max_two min_two max_three min_three max_four min_four   -- for this text's walks alone
set_option linter.unusedVariables false
set_option linter.unusedSimpArgs false

/-! ### sandglassref12_Total: function 16 -/
def sandglassref12_Total.j0 : Nat → Int → Bool → Int → Int → Int → Int → Int → Int → List Int → List (S54) → Option (Int)
  | 0, _, _, _, _, _, _, _, _, _, _ => none
  | k + 1, x2, x15, x325000, x325001, x325002, x325003, x326000, x326001, x326002, x326003 => if x15 = true then (some 0) else ((sandglassref12_counts.f k x325000 x325001 x325002 x325003 x326000 x326001 x326002 x326003 (mx x2 x326000)).bind fun t328 => (some t328))
def sandglassref12_Total.f (k : Nat) (a0_0 : Int) (a0_1 : Int) (a0_2 : Int) (a0_3 : Int) (a1_0 : Int) (a1_1 : Int) (l1_2 : List Int) (l1_3 : List (S54)) (a2 : Int) : Option (Int) := (sandglassref12_May.f k a0_0 a0_1 a0_2 a0_3 a1_0 a1_1 l1_2 l1_3).bind fun t326 => (if t326 = true then ((sandglassref10_Time.f a2).bind fun t327 => (sandglassref12_Total.j0 k a2 (!t327) a0_0 a0_1 a0_2 a0_3 a1_0 a1_1 l1_2 l1_3)) else (sandglassref12_Total.j0 k a2 true a0_0 a0_1 a0_2 a0_3 a1_0 a1_1 l1_2 l1_3))
theorem sandglassref12_Total.mono_l : ∀ k, (∀ y0 y1 y2 y3 y4 y5 y6 y7 y8 y9, LeO (sandglassref12_Total.j0 k y0 y1 y2 y3 y4 y5 y6 y7 y8 y9) (sandglassref12_Total.j0 (k + 1) y0 y1 y2 y3 y4 y5 y6 y7 y8 y9))
  | 0 => fun _ _ _ _ _ _ _ _ _ _ r h => by simp [sandglassref12_Total.j0] at h
  | k + 1 => by
    have ih0 := sandglassref12_Total.mono_l k
    · intro y0 y1 y2 y3 y4 y5 y6 y7 y8 y9
      unfold sandglassref12_Total.j0
      repeat' first
      | (with_reducible exact ih0 _ _ _ _ _ _ _ _ _ _)
      | (with_reducible exact sandglassref12_May.mono _ _ _ _ _ _ _ _ _)
      | (with_reducible exact sandglassref12_counts.mono _ _ _ _ _ _ _ _ _ _)
      | (with_reducible exact LeO.refl _)
      | (with_reducible exact LeO.none _)
      | (with_reducible refine LeO.ite ?_ ?_)
      | (with_reducible refine LeO.bind ?_ (fun _ => ?_))
      | exact ih0 _ _ _ _ _ _ _ _ _ _
      | exact sandglassref12_May.mono _ _ _ _ _ _ _ _ _
      | exact sandglassref12_counts.mono _ _ _ _ _ _ _ _ _ _
      | exact LeO.none _
      | refine LeO.ite ?_ ?_
      | refine LeO.bind ?_ (fun _ => ?_)
theorem sandglassref12_Total.mono : ∀ a0 a1 a2 a3 a4 a5 a6 a7 a8 k, LeO (sandglassref12_Total.f k a0 a1 a2 a3 a4 a5 a6 a7 a8) (sandglassref12_Total.f (k + 1) a0 a1 a2 a3 a4 a5 a6 a7 a8) := by
  intro a0 a1 a2 a3 a4 a5 a6 a7 a8 k
  have ih0 := sandglassref12_Total.mono_l k
  unfold sandglassref12_Total.f
  repeat' first
      | (with_reducible exact ih0 _ _ _ _ _ _ _ _ _ _)
      | (with_reducible exact sandglassref12_May.mono _ _ _ _ _ _ _ _ _)
      | (with_reducible exact sandglassref12_counts.mono _ _ _ _ _ _ _ _ _ _)
      | (with_reducible exact LeO.refl _)
      | (with_reducible exact LeO.none _)
      | (with_reducible refine LeO.ite ?_ ?_)
      | (with_reducible refine LeO.bind ?_ (fun _ => ?_))
      | exact ih0 _ _ _ _ _ _ _ _ _ _
      | exact sandglassref12_May.mono _ _ _ _ _ _ _ _ _
      | exact sandglassref12_counts.mono _ _ _ _ _ _ _ _ _ _
      | exact LeO.none _
      | refine LeO.ite ?_ ?_
      | refine LeO.bind ?_ (fun _ => ?_)
set_option maxHeartbeats 8000000 in
set_option maxRecDepth 100000 in
theorem sandglassref12_Total.calls (k : Nat) (a0_0 : Int) (a0_1 : Int) (a0_2 : Int) (a0_3 : Int) (a1_0 : Int) (a1_1 : Int) (A1_2 : Option Addr) (c1_2 : Nat) (l1_2 : List Int) (A1_3 : Option Addr) (c1_3 : Nat) (l1_3 : List (S54)) (a2 : Int) (r : Int) (w : World) (hr1_2 : Kd.C (Kd.int .i64) w A1_2 l1_2.length l1_2) (hc1_2 : l1_2.length ≤ c1_2) (hr1_3 : Kd.C k54 w A1_3 l1_3.length l1_3) (hc1_3 : l1_3.length ≤ c1_3) (h : sandglassref12_Total.f k a0_0 a0_1 a0_2 a0_3 a1_0 a1_1 l1_2 l1_3 a2 = some r) :
  Calls Try.prog 16 #[.agg #[.int .i64 a0_0, .int .i64 a0_1, .int .i64 a0_2, .int .i64 a0_3], .agg #[.int .i64 a1_0, .int .i64 a1_1, .slice A1_2 l1_2.length c1_2, .slice A1_3 l1_3.length c1_3], .int .i64 a2] w fun e w' => e = .returned (.int .i64 r) ∧ Below w.heap.size w w' := by
 have hu23 := Try.underlying23
 have hu27 := Try.underlying27
 have HR1_2 := Aside0.mk hr1_2
 have HC1_2 := Aside0.mk hc1_2
 clear hr1_2 hc1_2
 have HR1_3 := Aside0.mk hr1_3
 have HC1_3 := Aside0.mk hc1_3
 clear hr1_3 hc1_3
 have HB := Aside0.mk (Below.refl w.heap.size w)
 have H : ((sandglassref12_May.f k a0_0 a0_1 a0_2 a0_3 a1_0 a1_1 l1_2 l1_3).bind fun t326 => (if t326 = true then ((sandglassref10_Time.f a2).bind fun t327 => (sandglassref12_Total.j0 k a2 (!t327) a0_0 a0_1 a0_2 a0_3 a1_0 a1_1 l1_2 l1_3)) else (sandglassref12_Total.j0 k a2 true a0_0 a0_1 a0_2 a0_3 a1_0 a1_1 l1_2 l1_3))) = some r := h
 clear h
 have HC4 := Aside0.mk H
 clear H
 go_enter Try.func16, Try.ntmps16
 go_upto_region 1 with (first | ((with_reducible refine gate_dst (N := 3) rfl ?_); refine box_event ?hg (N := 3) ?hd (cs := #[.int .i64 a0_0, .int .i64 a0_1, .int .i64 a0_2, .int .i64 a0_3]) (t := 23) ?hr ?_; (case hd => rfl); (case hg => rfl); (case hr => first | (go_simp; done) | (go_simp; rfl)); intro gb324 hg w5 hbox hb; have BK324 := Aside0.mk (hbox); have GW324 := Aside0.mk ((by rw [hg]; exact (below_size (bl HB)) : w.heap.size ≤ gb324)); have GE324 := Aside0.mk ((by rw [hg]; exact (below_size (bl HB)) : w.heap.size ≤ gb324)); replace HB := Aside0.mk (below_step (bl HB) hb); clear hb hbox hg) | ((with_reducible refine gate_dst (N := 4) rfl ?_); refine box_event ?hg (N := 4) ?hd (cs := #[.int .i64 a1_0, .int .i64 a1_1, .slice A1_2 l1_2.length c1_2, .slice A1_3 l1_3.length c1_3]) (t := 27) ?hr ?_; (case hd => rfl); (case hg => rfl); (case hr => first | (go_simp; done) | (go_simp; rfl)); intro gb325 hg w6 hbox hb; have BK325 := Aside0.mk (hbox); have GW325 := Aside0.mk ((by rw [hg]; exact (below_size (bl HB)) : w.heap.size ≤ gb325)); have GE325 := Aside0.mk ((by rw [hg]; exact (below_size (bl HB)) : w.heap.size ≤ gb325)); have NB324_325 := nb BK324 hg; have NB325_324 := bn BK324 hg; replace BK324 := Aside0.mk (blk_below (bo BK324) hb); replace HB := Aside0.mk (below_step (bl HB) hb); clear hb hbox hg))
 (try simp only [Act.put, List.setIfInBounds_toArray, List.set_cons_zero, List.set_cons_succ])
 go_cut [15] (fun v15 wc => ∃ (kq : Nat) (x15_3 : Bool), v15 = .bool x15_3 ∧ Aside0 (sandglassref12_Total.j0 kq a2 x15_3 a0_0 a0_1 a0_2 a0_3 a1_0 a1_1 l1_2 l1_3 = some r) ∧ Aside0 (kq ≤ k) ∧ Aside0 (wc.heap[gb324]? = some (.cells #[.int .i64 a0_0, .int .i64 a0_1, .int .i64 a0_2, .int .i64 a0_3] 23 (0, 0))) ∧ Aside0 (wc.heap[gb325]? = some (.cells #[.int .i64 a1_0, .int .i64 a1_1, (.slice A1_2 l1_2.length c1_2), (.slice A1_3 l1_3.length c1_3)] 27 (0, 0))) ∧ Aside0 (Below w.heap.size w wc))
 case first =>
  have H := HC4.out
  clear HC4
  replace H := Option.bind_eq_some_iff.mp H
  obtain ⟨t326, A70, H⟩ := H
  have A7 := Aside0.mk A70
  clear A70
  by_cases c8 : t326 = true
  ·subst c8
   rw [if_pos rfl] at H
   replace H := Option.bind_eq_some_iff.mp H
   obtain ⟨t327, A90, H⟩ := H
   have A9 := Aside0.mk A90
   clear A90
   have H' := Aside0.mk H
   clear H
   have hnb10 := NB324_325.out
   have hnc10 := NB325_324.out
   obtain ⟨hcz11_0, hcz11_1, hcz11_2, hcz11_3⟩ := ce4 BK324
   obtain ⟨hfz11_0, hfz11_1, hfz11_2, hfz11_3⟩ := fr4 BK324
   obtain ⟨hcz12_0, hcz12_1, hcz12_2, hcz12_3⟩ := ce4 BK325
   obtain ⟨hfz12_0, hfz12_1, hfz12_2, hfz12_3⟩ := fr4 BK325
   go_wp2_with (first | ((with_reducible refine gate_callee (f := 14) rfl ?_); refine goesL_ (some 9) rfl rfl Try.func14 (by kernel_rfl) rfl #[.agg #[.int .i64 a0_0, .int .i64 a0_1, .int .i64 a0_2, .int .i64 a0_3], .agg #[.int .i64 a1_0, .int .i64 a1_1, .slice A1_2 l1_2.length c1_2, .slice A1_3 l1_3.length c1_3]] rfl (by (try simp only [List.map_toArray, List.map_cons, List.map_nil]); first | done | rfl | (simp only [List.length_drop, List.length_take]; rfl)) ?_; (with_reducible refine (sandglassref12_May.calls k a0_0 a0_1 a0_2 a0_3 a1_0 a1_1 _ _ l1_2 _ _ l1_3 true _ ?side1 ?side2 ?side3 ?side4 A7.out).mono ?_); (case side1 => repeat (first | exact (Kd.C_below HR1_2.out HB.out) | (with_reducible refine Kd.C_alloc ?_ _) | (with_reducible refine Kd.C_drewN ?_ _) | (with_reducible refine Kd.C_drew ?_))); (case side2 => exact HC1_2.out); (case side3 => repeat (first | exact (Kd.C_below HR1_3.out HB.out) | (with_reducible refine Kd.C_alloc ?_ _) | (with_reducible refine Kd.C_drewN ?_ _) | (with_reducible refine Kd.C_drew ?_))); (case side4 => exact HC1_3.out); rintro e w13 ⟨rfl, hb⟩; refine ⟨_, rfl, ?_⟩; replace BK324 := Aside0.mk (blk_below (bo BK324) hb); replace BK325 := Aside0.mk (blk_below (bo BK325) hb); replace HB := Aside0.mk (below_step (bl HB) hb); (try clear hb); (try clear hb2); (try clear hk); (try clear hi)) | (go_at_call 27; (with_reducible refine (sandglassref10_Time.calls a2 t327 _ A9.out).mono ?_); rintro e w' ⟨rfl, ⟨nd, rfl⟩⟩))
   go_meet
   case rel => exact ⟨_, (!t327), (by first | (with_reducible rfl) | rfl | (simp; done) | (simp [*]; done)), H', ⟨by first | omega | exact Nat.le_refl _⟩, ⟨bo BK324⟩, ⟨bo BK325⟩, ⟨bl HB⟩⟩
  ·replace c8 := Bool.eq_false_iff.mpr c8
   subst c8
   rw [if_neg (show ¬ (false = true) by decide)] at H
   have H' := Aside0.mk H
   clear H
   have hnb14 := NB324_325.out
   have hnc14 := NB325_324.out
   obtain ⟨hcz15_0, hcz15_1, hcz15_2, hcz15_3⟩ := ce4 BK324
   obtain ⟨hfz15_0, hfz15_1, hfz15_2, hfz15_3⟩ := fr4 BK324
   obtain ⟨hcz16_0, hcz16_1, hcz16_2, hcz16_3⟩ := ce4 BK325
   obtain ⟨hfz16_0, hfz16_1, hfz16_2, hfz16_3⟩ := fr4 BK325
   go_wp2_with (first | ((with_reducible refine gate_callee (f := 14) rfl ?_); refine goesL_ (some 9) rfl rfl Try.func14 (by kernel_rfl) rfl #[.agg #[.int .i64 a0_0, .int .i64 a0_1, .int .i64 a0_2, .int .i64 a0_3], .agg #[.int .i64 a1_0, .int .i64 a1_1, .slice A1_2 l1_2.length c1_2, .slice A1_3 l1_3.length c1_3]] rfl (by (try simp only [List.map_toArray, List.map_cons, List.map_nil]); first | done | rfl | (simp only [List.length_drop, List.length_take]; rfl)) ?_; (with_reducible refine (sandglassref12_May.calls k a0_0 a0_1 a0_2 a0_3 a1_0 a1_1 _ _ l1_2 _ _ l1_3 false _ ?side1 ?side2 ?side3 ?side4 A7.out).mono ?_); (case side1 => repeat (first | exact (Kd.C_below HR1_2.out HB.out) | (with_reducible refine Kd.C_alloc ?_ _) | (with_reducible refine Kd.C_drewN ?_ _) | (with_reducible refine Kd.C_drew ?_))); (case side2 => exact HC1_2.out); (case side3 => repeat (first | exact (Kd.C_below HR1_3.out HB.out) | (with_reducible refine Kd.C_alloc ?_ _) | (with_reducible refine Kd.C_drewN ?_ _) | (with_reducible refine Kd.C_drew ?_))); (case side4 => exact HC1_3.out); rintro e w17 ⟨rfl, hb⟩; refine ⟨_, rfl, ?_⟩; replace BK324 := Aside0.mk (blk_below (bo BK324) hb); replace BK325 := Aside0.mk (blk_below (bo BK325) hb); replace HB := Aside0.mk (below_step (bl HB) hb); (try clear hb); (try clear hb2); (try clear hk); (try clear hi)))
   go_meet
   case rel => exact ⟨_, (true), (by first | (with_reducible rfl) | rfl | (simp; done) | (simp [*]; done)), H', ⟨by first | omega | exact Nat.le_refl _⟩, ⟨bo BK324⟩, ⟨bo BK325⟩, ⟨bl HB⟩⟩
 case rest =>
  clear HC4
  try clear c8; try clear hcz11_0; try clear hcz11_1; try clear hcz11_2; try clear hcz11_3; try clear hcz12_0; try clear hcz12_1; try clear hcz12_2; try clear hcz12_3; try clear hcz15_0; try clear hcz15_1; try clear hcz15_2; try clear hcz15_3; try clear hcz16_0; try clear hcz16_1; try clear hcz16_2; try clear hcz16_3; try clear hfz11_0; try clear hfz11_1; try clear hfz11_2; try clear hfz11_3; try clear hfz12_0; try clear hfz12_1; try clear hfz12_2; try clear hfz12_3; try clear hfz15_0; try clear hfz15_1; try clear hfz15_2; try clear hfz15_3; try clear hfz16_0; try clear hfz16_1; try clear hfz16_2; try clear hfz16_3
  obtain ⟨kq, x15_3, rfl, HA, HJ3, BK324, BK325, HB⟩ := hcut
  cases kq with
  | zero => exact absurd HA.out (by simp [sandglassref12_Total.j0])
  | succ kj3 =>
   have H := HA.out
   clear HA
   simp only [sandglassref12_Total.j0] at H
   by_cases c18 : x15_3 = true
   ·subst c18
    rw [if_pos rfl] at H
    obtain rfl := Option.some.inj H
    go_wp2
    go_ret
    exact ⟨by first | (with_reducible rfl) | rfl | (simp [errW_none, errW_some] <;> rfl) | (simp [*, errW_none, errW_some] <;> rfl), bl HB⟩
   ·replace c18 := Bool.eq_false_iff.mpr c18
    subst c18
    rw [if_neg (show ¬ (false = true) by decide)] at H
    obtain ⟨ji19, hji19⟩ : ∃ j_ : Int, (mx a2 a1_0) = j_ := ⟨_, rfl⟩
    replace H : ((sandglassref12_counts.f kj3 a0_0 a0_1 a0_2 a0_3 a1_0 a1_1 l1_2 l1_3 (ji19)).bind fun t328 => (some t328)) = some r := by first | (rw [hji19] at H; exact H) | (simp only [hji19] at H ⊢; exact H)
    have hji19_ : (if a2 < a1_0 then a1_0 else a2) = ji19 := hji19
    replace H := Option.bind_eq_some_iff.mp H
    obtain ⟨t328, A200, H⟩ := H
    have A20 := Aside0.mk A200
    clear A200
    obtain rfl := Option.some.inj H
    have hnb21 := NB324_325.out
    have hnc21 := NB325_324.out
    obtain ⟨hcz22_0, hcz22_1, hcz22_2, hcz22_3⟩ := ce4 BK324
    obtain ⟨hfz22_0, hfz22_1, hfz22_2, hfz22_3⟩ := fr4 BK324
    obtain ⟨hcz23_0, hcz23_1, hcz23_2, hcz23_3⟩ := ce4 BK325
    obtain ⟨hfz23_0, hfz23_1, hfz23_2, hfz23_3⟩ := fr4 BK325
    go_wp2_with (first | ((with_reducible refine gate_callee (f := 30) rfl ?_); refine goesL_ (some 22) rfl rfl Try.func30 (by kernel_rfl) rfl #[.agg #[.int .i64 a0_0, .int .i64 a0_1, .int .i64 a0_2, .int .i64 a0_3], .agg #[.int .i64 a1_0, .int .i64 a1_1, .slice A1_2 l1_2.length c1_2, .slice A1_3 l1_3.length c1_3], .int .i64 ji19] rfl (by (try simp only [List.map_toArray, List.map_cons, List.map_nil]); first | done | (simp only [hji19]; rfl) | rfl | (simp only [List.length_drop, List.length_take]; rfl)) ?_; (with_reducible refine (sandglassref12_counts.calls kj3 a0_0 a0_1 a0_2 a0_3 a1_0 a1_1 _ _ l1_2 _ _ l1_3 ji19 t328 _ ?side1 ?side2 ?side3 ?side4 A20.out).mono ?_); (case side1 => repeat (first | exact (Kd.C_below HR1_2.out HB.out) | (with_reducible refine Kd.C_alloc ?_ _) | (with_reducible refine Kd.C_drewN ?_ _) | (with_reducible refine Kd.C_drew ?_))); (case side2 => exact HC1_2.out); (case side3 => repeat (first | exact (Kd.C_below HR1_3.out HB.out) | (with_reducible refine Kd.C_alloc ?_ _) | (with_reducible refine Kd.C_drewN ?_ _) | (with_reducible refine Kd.C_drew ?_))); (case side4 => exact HC1_3.out); rintro e w24 ⟨rfl, hb⟩; refine ⟨_, rfl, ?_⟩; replace BK324 := Aside0.mk (blk_below (bo BK324) hb); replace BK325 := Aside0.mk (blk_below (bo BK325) hb); replace HB := Aside0.mk (below_step (bl HB) hb); (try clear hb); (try clear hb2); (try clear hk); (try clear hi)))
    go_ret
    exact ⟨by first | (with_reducible rfl) | (simp only [← hji19]; with_reducible rfl) | (simp only [← hji19]; done) | rfl | (simp [errW_none, errW_some] <;> rfl) | (simp only [← hji19]; first | rfl | (simp [errW_none, errW_some] <;> rfl)) | (simp [*, errW_none, errW_some] <;> rfl), bl HB⟩

end Go.Proofs.Ytalcmlgkdkbbaaa.Q
