-- Laid by wip/tools/hprint.py, a program of this repo, over the kit's print; not a text of print.sh.
import Derived.Test.YtlnadabohaobnaaQ0
import Derived.Test.YtlnadabohaobnaaQ5
import Derived.Test.YtlnadabohaobnaaQ8
import Derived.Test.YtlnadabohaobnaaQ9
import Derived.Test.YtlnadabohaobnaaQ10
import Derived.Test.YtlnadabohaobnaaQ11
namespace Go.Proofs.Ytlnadabohaobnaa.Q
open Go.RowKit Go.Proofs.Ytlnadabohaobnaa.Zip Go.Proofs.YtlnadabohaobnaaW.PrintWords Go.Proofs.YtlnadabohaobnaaW.PrintLast Go.Proofs.YtlnadabohaobnaaW.PrintMore
attribute [local go_sem] max2_int min2_int max_two min_two max_three min_three max_four min_four   -- for this text's walks alone
set_option linter.unusedVariables false
set_option linter.unusedSimpArgs false

/-! ### fixed_Ask: function 10 -/
mutual
def fixed_Ask.j0 : Nat → Int → Int → Bool → Int → Int → Int → Int → Int → Int → List Int → List (S53) → Option (Int × Int × List Int × (List (S53)) × Bool × Int × Int × Int)
  | 0, _, _, _, _, _, _, _, _, _, _, _ => none
  | k + 1, x2, x3, x26, x118000, x118001, x118002, x118003, x119000, x119001, x119002, x119003 => if x26 = true then (some (x119000, x119001, x119002, x119003, false, 0, 0, 0)) else ((fixed_Total.f k x118000 x118001 x118002 x118003 x119000 x119001 x119002 x119003 (mx x2 x119000)).bind fun t124 => ((fixed_of.f x118000 x118001 x118002 x118003 (mx x2 x119000)).bind fun bt125 => (if (wrap64 (t124 + x3)) ≤ x118001 then (fixed_Ask.j1 k (mx x2 x119000) (wrap64 (t124 + x3)) (wrap64 (bt125.2 - (mx x2 x119000))) x118000 x118001 x118002 x118003 true 0 0 0) else (if x3 > x118001 then (fixed_Ask.j1 k (mx x2 x119000) t124 (wrap64 (bt125.2 - (mx x2 x119000))) x118000 x118001 x118002 x118003 false 0 2199023255552 0) else (fixed_Ask.j1 k (mx x2 x119000) t124 (wrap64 (bt125.2 - (mx x2 x119000))) x118000 x118001 x118002 x118003 false 0 (wrap64 (bt125.2 - (mx x2 x119000))) 0)))))
def fixed_Ask.j1 : Nat → Int → Int → Int → Int → Int → Int → Int → Bool → Int → Int → Int → Option (Int × Int × List Int × (List (S53)) × Bool × Int × Int × Int)
  | 0, _, _, _, _, _, _, _, _, _, _, _ => none
  | k + 1, x2, x10, x11, x118000, x118001, x118002, x118003, x128000, x128001, x128002, x128003 => if x10 > 0 then (some (x2, x10, ([] : List Int), ([] : List (S53)), x128000, wrap64 (x118001 - x10), x128002, x11)) else (some (x2, x10, ([] : List Int), ([] : List (S53)), x128000, wrap64 (x118001 - x10), x128002, x128003))
end
def fixed_Ask.f (k : Nat) (a0_0 : Int) (a0_1 : Int) (a0_2 : Int) (a0_3 : Int) (a1_0 : Int) (a1_1 : Int) (l1_2 : List Int) (l1_3 : List (S53)) (a2 : Int) (a3 : Int) : Option (Int × Int × List Int × (List (S53)) × Bool × Int × Int × Int) := (fixed_May.f a0_0 a0_1 a0_2 a0_3 a1_0 a1_1 l1_2 l1_3).bind fun t121 => (if t121 = true then ((fixed_time.f a2).bind fun t122 => (if t122 = true then ((policy_Weighs.f a3).bind fun t123 => (fixed_Ask.j0 k a2 a3 (!t123) a0_0 a0_1 a0_2 a0_3 a1_0 a1_1 l1_2 l1_3)) else (fixed_Ask.j0 k a2 a3 true a0_0 a0_1 a0_2 a0_3 a1_0 a1_1 l1_2 l1_3))) else (fixed_Ask.j0 k a2 a3 true a0_0 a0_1 a0_2 a0_3 a1_0 a1_1 l1_2 l1_3))
theorem fixed_Ask.mono_l : ∀ k, (∀ y0 y1 y2 y3 y4 y5 y6 y7 y8 y9 y10, LeO (fixed_Ask.j0 k y0 y1 y2 y3 y4 y5 y6 y7 y8 y9 y10) (fixed_Ask.j0 (k + 1) y0 y1 y2 y3 y4 y5 y6 y7 y8 y9 y10)) ∧ (∀ y0 y1 y2 y3 y4 y5 y6 y7 y8 y9 y10, LeO (fixed_Ask.j1 k y0 y1 y2 y3 y4 y5 y6 y7 y8 y9 y10) (fixed_Ask.j1 (k + 1) y0 y1 y2 y3 y4 y5 y6 y7 y8 y9 y10))
  | 0 => ⟨fun _ _ _ _ _ _ _ _ _ _ _ r h => by simp [fixed_Ask.j0] at h, fun _ _ _ _ _ _ _ _ _ _ _ r h => by simp [fixed_Ask.j1] at h⟩
  | k + 1 => by
    obtain ⟨ih0, ih1⟩ := fixed_Ask.mono_l k
    refine ⟨?_, ?_⟩
    · intro y0 y1 y2 y3 y4 y5 y6 y7 y8 y9 y10
      unfold fixed_Ask.j0
      repeat' first
      | (with_reducible exact ih0 _ _ _ _ _ _ _ _ _ _ _)
      | (with_reducible exact ih1 _ _ _ _ _ _ _ _ _ _ _)
      | (with_reducible exact fixed_Total.mono _ _ _ _ _ _ _ _ _ _)
      | (with_reducible exact LeO.refl _)
      | (with_reducible exact LeO.none _)
      | (with_reducible refine LeO.ite ?_ ?_)
      | (with_reducible refine LeO.bind ?_ (fun _ => ?_))
      | exact ih0 _ _ _ _ _ _ _ _ _ _ _
      | exact ih1 _ _ _ _ _ _ _ _ _ _ _
      | exact fixed_Total.mono _ _ _ _ _ _ _ _ _ _
      | exact LeO.none _
      | refine LeO.ite ?_ ?_
      | refine LeO.bind ?_ (fun _ => ?_)
    · intro y0 y1 y2 y3 y4 y5 y6 y7 y8 y9 y10
      unfold fixed_Ask.j1
      repeat' first
      | (with_reducible exact ih0 _ _ _ _ _ _ _ _ _ _ _)
      | (with_reducible exact ih1 _ _ _ _ _ _ _ _ _ _ _)
      | (with_reducible exact fixed_Total.mono _ _ _ _ _ _ _ _ _ _)
      | (with_reducible exact LeO.refl _)
      | (with_reducible exact LeO.none _)
      | (with_reducible refine LeO.ite ?_ ?_)
      | (with_reducible refine LeO.bind ?_ (fun _ => ?_))
      | exact ih0 _ _ _ _ _ _ _ _ _ _ _
      | exact ih1 _ _ _ _ _ _ _ _ _ _ _
      | exact fixed_Total.mono _ _ _ _ _ _ _ _ _ _
      | exact LeO.none _
      | refine LeO.ite ?_ ?_
      | refine LeO.bind ?_ (fun _ => ?_)
theorem fixed_Ask.mono : ∀ a0 a1 a2 a3 a4 a5 a6 a7 a8 a9 k, LeO (fixed_Ask.f k a0 a1 a2 a3 a4 a5 a6 a7 a8 a9) (fixed_Ask.f (k + 1) a0 a1 a2 a3 a4 a5 a6 a7 a8 a9) := by
  intro a0 a1 a2 a3 a4 a5 a6 a7 a8 a9 k
  obtain ⟨ih0, ih1⟩ := fixed_Ask.mono_l k
  unfold fixed_Ask.f
  repeat' first
      | (with_reducible exact ih0 _ _ _ _ _ _ _ _ _ _ _)
      | (with_reducible exact ih1 _ _ _ _ _ _ _ _ _ _ _)
      | (with_reducible exact fixed_Total.mono _ _ _ _ _ _ _ _ _ _)
      | (with_reducible exact LeO.refl _)
      | (with_reducible exact LeO.none _)
      | (with_reducible refine LeO.ite ?_ ?_)
      | (with_reducible refine LeO.bind ?_ (fun _ => ?_))
      | exact ih0 _ _ _ _ _ _ _ _ _ _ _
      | exact ih1 _ _ _ _ _ _ _ _ _ _ _
      | exact fixed_Total.mono _ _ _ _ _ _ _ _ _ _
      | exact LeO.none _
      | refine LeO.ite ?_ ?_
      | refine LeO.bind ?_ (fun _ => ?_)
def fixed_Ask.T4 : Bool × List (List Nat × List Nat) := (true, [([], []), ([], []), ([], []), ([0, 1, 2], [0, 1, 2]), ([], []), ([], []), ([4, 5, 3], [4, 5]), ([6], [6]), ([], []), ([7, 8], [7, 8]), ([3, 6, 0, 1, 2, 3], [3]), ([9, 10, 0, 1, 2, 3, 4, 5, 6, 7, 8, 9, 10], [9])])
def fixed_Ask.B4 : List Nat := [0, 0, 0, 7, 0, 0, 63, 127, 0, 511, 127, 2047]
theorem fixed_Ask.tab4 : rtab .any (opsOf Try.f10 4) = fixed_Ask.T4 := by kernel_rfl
theorem fixed_Ask.bits4 : waitsOk fixed_Ask.T4.2 fixed_Ask.B4 = true := by kernel_rfl
set_option maxHeartbeats 8000000 in
set_option maxRecDepth 100000 in
theorem fixed_Ask.calls (k : Nat) (a0_0 : Int) (a0_1 : Int) (a0_2 : Int) (a0_3 : Int) (a1_0 : Int) (a1_1 : Int) (P1_2_ : Nat → Prop) (A1_2 : Option Addr) (c1_2 : Nat) (l1_2 : List Int) (P1_3_ : Nat → Prop) (A1_3 : Option Addr) (c1_3 : Nat) (l1_3 : List (S53)) (a2 : Int) (a3 : Int) (r1 : Int) (r2 : Int) (r3 : List Int) (r4 : List (S53)) (r5 : Bool) (r6 : Int) (r7 : Int) (r8 : Int) (w : World) (hs1_2 : Kd.V (Kd.int .i64) 3 w w.heap.size (fun k_ => P1_2_ k_) (.slice A1_2 l1_2.length c1_2) l1_2) (hs1_3 : Kd.V k53 53 w w.heap.size (fun k_ => P1_3_ k_) (.slice A1_3 l1_3.length c1_3) l1_3) (h : fixed_Ask.f k a0_0 a0_1 a0_2 a0_3 a1_0 a1_1 l1_2 l1_3 a2 a3 = some (r1, r2, r3, r4, r5, r6, r7, r8)) :
    Calls Try.prog 10 #[.agg #[.int .i64 a0_0, .int .i64 a0_1, .int .i64 a0_2, .int .i64 a0_3], .agg #[.int .i64 a1_0, .int .i64 a1_1, .slice A1_2 l1_2.length c1_2, .slice A1_3 l1_3.length c1_3], .int .i64 a2, .int .i64 a3] w fun e w' => ∃ v2_ v3_ : Value, e = .returned (.tuple #[.agg #[.int .i64 r1, .int .i64 r2, v2_, v3_], .agg #[.bool r5, .int .i64 r6, .int .i64 r7, .int .i64 r8]]) ∧ Kd.V (Kd.int .i64) 3 w' w.heap.size (fun k_ => ((P1_2_ k_ ∨ P1_3_ k_) ∨ w.heap.size ≤ k_)) v2_ r3 ∧ Kd.V k53 53 w' w.heap.size (fun k_ => ((P1_2_ k_ ∨ P1_3_ k_) ∨ w.heap.size ≤ k_)) v3_ r4 ∧ Below w.heap.size w w' := by
  have hu23 := Try.underlying23
  have hu27 := Try.underlying27
  have hu32 := Try.underlying32
  have hu50 := Try.underlying50
  have hfl50_1 : ∀ (W_ : World) (y0 : Int) (y1 : Int), (Instr.field 50 (.agg #[.int .i64 y0, .int .i64 y1]) 1).run Try.prog W_ = .ok (.int .i64 y1) W_ := by intros; kernel_rfl
  have HO1_2 := Aside0.mk (show Kd.V (Kd.int .i64) 3 w w.heap.size (fun k_ => ((P1_2_ k_ ∨ P1_3_ k_) ∨ w.heap.size ≤ k_)) (.slice A1_2 l1_2.length c1_2) l1_2 from Kd.V_mono hs1_2 (fun k_ hk => .inl (.inl hk)))
  have HO1_3 := Aside0.mk (show Kd.V k53 53 w w.heap.size (fun k_ => ((P1_2_ k_ ∨ P1_3_ k_) ∨ w.heap.size ≤ k_)) (.slice A1_3 l1_3.length c1_3) l1_3 from Kd.V_mono hs1_3 (fun k_ hk => .inl (.inr hk)))
  have HB := Aside0.mk (Below.refl w.heap.size w)
  have H : ((fixed_May.f a0_0 a0_1 a0_2 a0_3 a1_0 a1_1 l1_2 l1_3).bind fun t121 => (if t121 = true then ((fixed_time.f a2).bind fun t122 => (if t122 = true then ((policy_Weighs.f a3).bind fun t123 => (fixed_Ask.j0 k a2 a3 (!t123) a0_0 a0_1 a0_2 a0_3 a1_0 a1_1 l1_2 l1_3)) else (fixed_Ask.j0 k a2 a3 true a0_0 a0_1 a0_2 a0_3 a1_0 a1_1 l1_2 l1_3))) else (fixed_Ask.j0 k a2 a3 true a0_0 a0_1 a0_2 a0_3 a1_0 a1_1 l1_2 l1_3))) = some (r1, r2, r3, r4, r5, r6, r7, r8) := h
  clear h
  have HC5 := Aside0.mk H
  clear H
  go_enter Try.func10, Try.ntmps10
  go_upto_region 1 with (first | ((with_reducible refine gate_dst (N := 4) rfl ?_); refine box_event ?hg (N := 4) ?hd (cs := #[.int .i64 a0_0, .int .i64 a0_1, .int .i64 a0_2, .int .i64 a0_3]) (t := 23) ?hr ?_; (case hd => rfl); (case hg => rfl); (case hr => first | (go_simp; done) | (go_simp; rfl)); intro gb117 hg w6 hbox hb; have BK117 := Aside0.mk (hbox); have GW117 := Aside0.mk ((by rw [hg]; exact (below_size (bl HB)) : w.heap.size ≤ gb117)); have GE117 := Aside0.mk ((by rw [hg]; exact (below_size (bl HB)) : w.heap.size ≤ gb117)); replace HO1_2 := ve HO1_2 hg hb; replace HO1_3 := ve HO1_3 hg hb; replace HB := Aside0.mk (below_step (bl HB) hb); clear hb hbox hg) | ((with_reducible refine gate_dst (N := 5) rfl ?_); refine box_event ?hg (N := 5) ?hd (cs := #[.int .i64 a1_0, .int .i64 a1_1, .slice A1_2 l1_2.length c1_2, .slice A1_3 l1_3.length c1_3]) (t := 27) ?hr ?_; (case hd => rfl); (case hg => rfl); (case hr => first | (go_simp; done) | (go_simp; rfl)); intro gb118 hg w7 hbox hb; have BK118 := Aside0.mk (hbox); have GW118 := Aside0.mk ((by rw [hg]; exact (below_size (bl HB)) : w.heap.size ≤ gb118)); have GE118 := Aside0.mk ((by rw [hg]; exact (below_size (bl HB)) : w.heap.size ≤ gb118)); have NB117_118 := nb BK117 hg; have NB118_117 := bn BK117 hg; replace HO1_2 := ve HO1_2 hg hb; replace HO1_3 := ve HO1_3 hg hb; replace BK117 := Aside0.mk (blk_below (bo BK117) hb); replace HB := Aside0.mk (below_step (bl HB) hb); clear hb hbox hg) | ((with_reducible refine gate_dst (N := 8) rfl ?_); refine box_event ?hg (N := 8) ?hd (cs := #[.int .i64 0, .int .i64 0, .slice none 0 0, .slice none 0 0]) (t := 27) ?hr ?_; (case hd => rfl); (case hg => rfl); (case hr => first | (go_simp; done) | (go_simp; rfl)); intro gb119 hg w8 hbox hb; have BK119 := Aside0.mk (hbox); have GW119 := Aside0.mk ((by rw [hg]; exact (below_size (bl HB)) : w.heap.size ≤ gb119)); have GE119 := Aside0.mk ((by rw [hg]; exact (below_size (bl HB)) : w.heap.size ≤ gb119)); have NB117_119 := nb BK117 hg; have NB119_117 := bn BK117 hg; have NB118_119 := nb BK118 hg; have NB119_118 := bn BK118 hg; replace HO1_2 := ve HO1_2 hg hb; replace HO1_3 := ve HO1_3 hg hb; replace BK117 := Aside0.mk (blk_below (bo BK117) hb); replace BK118 := Aside0.mk (blk_below (bo BK118) hb); replace HB := Aside0.mk (below_step (bl HB) hb); clear hb hbox hg) | ((with_reducible refine gate_dst (N := 9) rfl ?_); refine box_event ?hg (N := 9) ?hd (cs := #[.bool false, .int .i64 0, .int .i64 0, .int .i64 0]) (t := 32) ?hr ?_; (case hd => rfl); (case hg => rfl); (case hr => first | (go_simp; done) | (go_simp; rfl)); intro gb120 hg w9 hbox hb; have BK120 := Aside0.mk (hbox); have GW120 := Aside0.mk ((by rw [hg]; exact (below_size (bl HB)) : w.heap.size ≤ gb120)); have GE120 := Aside0.mk ((by rw [hg]; exact (below_size (bl HB)) : w.heap.size ≤ gb120)); have NB117_120 := nb BK117 hg; have NB120_117 := bn BK117 hg; have NB118_120 := nb BK118 hg; have NB120_118 := bn BK118 hg; have NB119_120 := nb BK119 hg; have NB120_119 := bn BK119 hg; replace HO1_2 := ve HO1_2 hg hb; replace HO1_3 := ve HO1_3 hg hb; replace BK117 := Aside0.mk (blk_below (bo BK117) hb); replace BK118 := Aside0.mk (blk_below (bo BK118) hb); replace BK119 := Aside0.mk (blk_below (bo BK119) hb); replace HB := Aside0.mk (below_step (bl HB) hb); clear hb hbox hg))
  (try simp only [Act.put, List.setIfInBounds_toArray, List.set_cons_zero, List.set_cons_succ])
  go_cut [26] (fun v26 wc => ∃ (kq : Nat) (x26_4 : Bool), v26 = .bool x26_4 ∧ Aside0 (fixed_Ask.j0 kq a2 a3 x26_4 a0_0 a0_1 a0_2 a0_3 a1_0 a1_1 l1_2 l1_3 = some (r1, r2, r3, r4, r5, r6, r7, r8)) ∧ Aside0 (kq ≤ k) ∧ Aside0 (Kd.V (Kd.int .i64) 3 wc w.heap.size (fun k_ => ((P1_2_ k_ ∨ P1_3_ k_) ∨ w.heap.size ≤ k_) ∧ k_ ≠ gb117 ∧ k_ ≠ gb118 ∧ k_ ≠ gb119 ∧ k_ ≠ gb120) (.slice A1_2 l1_2.length c1_2) l1_2) ∧ Aside0 (Kd.V k53 53 wc w.heap.size (fun k_ => ((P1_2_ k_ ∨ P1_3_ k_) ∨ w.heap.size ≤ k_) ∧ k_ ≠ gb117 ∧ k_ ≠ gb118 ∧ k_ ≠ gb119 ∧ k_ ≠ gb120) (.slice A1_3 l1_3.length c1_3) l1_3) ∧ Aside0 (wc.heap[gb117]? = some (.cells #[.int .i64 a0_0, .int .i64 a0_1, .int .i64 a0_2, .int .i64 a0_3] 23 (0, 0))) ∧ Aside0 (wc.heap[gb118]? = some (.cells #[.int .i64 a1_0, .int .i64 a1_1, (.slice A1_2 l1_2.length c1_2), (.slice A1_3 l1_3.length c1_3)] 27 (0, 0))) ∧ Aside0 (wc.heap[gb119]? = some (.cells #[.int .i64 0, .int .i64 0, (.slice none 0 0), (.slice none 0 0)] 27 (0, 0))) ∧ Aside0 (wc.heap[gb120]? = some (.cells #[.bool false, .int .i64 0, .int .i64 0, .int .i64 0] 32 (0, 0))) ∧ Aside0 (Below w.heap.size w wc))
  case first =>
    have H := HC5.out
    clear HC5
    replace H := Option.bind_eq_some_iff.mp H
    obtain ⟨t121, A100, H⟩ := H
    have A10 := Aside0.mk A100
    clear A100
    by_cases c11 : t121 = true
    · subst c11
      rw [if_pos rfl] at H
      replace H := Option.bind_eq_some_iff.mp H
      obtain ⟨t122, A120, H⟩ := H
      have A12 := Aside0.mk A120
      clear A120
      by_cases c13 : t122 = true
      · subst c13
        rw [if_pos rfl] at H
        replace H := Option.bind_eq_some_iff.mp H
        obtain ⟨t123, A140, H⟩ := H
        have A14 := Aside0.mk A140
        clear A140
        have H' := Aside0.mk H
        clear H
        have hnb15 := NB117_118.out
        have hnc15 := NB118_117.out
        have hnb16 := NB117_119.out
        have hnc16 := NB119_117.out
        have hnb17 := NB117_120.out
        have hnc17 := NB120_117.out
        obtain ⟨hcz18_0, hcz18_1, hcz18_2, hcz18_3⟩ := ce4 BK117
        obtain ⟨hfz18_0, hfz18_1, hfz18_2, hfz18_3⟩ := fr4 BK117
        have hnb19 := NB118_119.out
        have hnc19 := NB119_118.out
        have hnb20 := NB118_120.out
        have hnc20 := NB120_118.out
        obtain ⟨hcz21_0, hcz21_1, hcz21_2, hcz21_3⟩ := ce4 BK118
        obtain ⟨hfz21_0, hfz21_1, hfz21_2, hfz21_3⟩ := fr4 BK118
        go_wp2_with (first | ((with_reducible refine gate_callee (f := 13) rfl ?_); refine goesL_ (some 15) rfl rfl Try.func13 (by kernel_rfl) rfl #[.agg #[.int .i64 a0_0, .int .i64 a0_1, .int .i64 a0_2, .int .i64 a0_3], .agg #[.int .i64 a1_0, .int .i64 a1_1, .slice A1_2 l1_2.length c1_2, .slice A1_3 l1_3.length c1_3]] rfl (by (try simp only [List.map_toArray, List.map_cons, List.map_nil]); first | done | rfl | (simp only [List.length_drop, List.length_take]; rfl)) ?_; (with_reducible refine (fixed_May.calls a0_0 a0_1 a0_2 a0_3 a1_0 a1_1 _ _ l1_2 _ _ l1_3 true _ ?side1 ?side2 ?side3 ?side4 A10.out).mono ?_); (case side1 => repeat (first | exact (Kd.V_reads' HO1_2.out).2.2 | (with_reducible refine Kd.C_alloc ?_ _) | (with_reducible refine Kd.C_drewN ?_ _) | (with_reducible refine Kd.C_drew ?_))); (case side2 => exact (Kd.V_reads' HO1_2.out).2.1); (case side3 => repeat (first | exact (Kd.V_reads' HO1_3.out).2.2 | (with_reducible refine Kd.C_alloc ?_ _) | (with_reducible refine Kd.C_drewN ?_ _) | (with_reducible refine Kd.C_drew ?_))); (case side4 => exact (Kd.V_reads' HO1_3.out).2.1); rintro e w22 ⟨rfl, hb⟩; refine ⟨_, rfl, ?_⟩; replace HO1_2 := vb HO1_2 hb; replace HO1_3 := vb HO1_3 hb; replace BK117 := Aside0.mk (blk_below (bo BK117) hb); replace BK118 := Aside0.mk (blk_below (bo BK118) hb); replace BK119 := Aside0.mk (blk_below (bo BK119) hb); replace BK120 := Aside0.mk (blk_below (bo BK120) hb); replace HB := Aside0.mk (below_step (bl HB) hb); (try clear hb); (try clear hb2); (try clear hk); (try clear hi)) | (go_at_call 21; (with_reducible refine (fixed_time.calls a2 true _ A12.out).mono ?_); rintro e w' ⟨rfl, ⟨nd, rfl⟩⟩) | (go_at_call 22; (with_reducible refine (policy_Weighs.calls a3 t123 _ A14.out).mono ?_); rintro e w' ⟨rfl, ⟨nd, rfl⟩⟩))
        go_meet
        case rel => exact ⟨_, (!t123), (by first | (with_reducible rfl) | rfl | (simp; done) | (simp [*]; done)), H', ⟨by first | omega | exact Nat.le_refl _⟩, ⟨by (with_reducible repeat (first | apply Kd.V_alloc | apply Kd.V_drewN | apply Kd.V_drew)); exact Kd.V_mono HO1_2.out (fun _ hk => ⟨hk.1.1.1.1, ⟨hk.1.1.1.2, ⟨hk.1.1.2, ⟨hk.1.2, hk.2⟩⟩⟩⟩)⟩, ⟨by (with_reducible repeat (first | apply Kd.V_alloc | apply Kd.V_drewN | apply Kd.V_drew)); exact Kd.V_mono HO1_3.out (fun _ hk => ⟨hk.1.1.1.1, ⟨hk.1.1.1.2, ⟨hk.1.1.2, ⟨hk.1.2, hk.2⟩⟩⟩⟩)⟩, ⟨bo BK117⟩, ⟨bo BK118⟩, ⟨bo BK119⟩, ⟨bo BK120⟩, ⟨bl HB⟩⟩
      · replace c13 := Bool.eq_false_iff.mpr c13
        subst c13
        rw [if_neg (show ¬ (false = true) by decide)] at H
        have H' := Aside0.mk H
        clear H
        have hnb23 := NB117_118.out
        have hnc23 := NB118_117.out
        have hnb24 := NB117_119.out
        have hnc24 := NB119_117.out
        have hnb25 := NB117_120.out
        have hnc25 := NB120_117.out
        obtain ⟨hcz26_0, hcz26_1, hcz26_2, hcz26_3⟩ := ce4 BK117
        obtain ⟨hfz26_0, hfz26_1, hfz26_2, hfz26_3⟩ := fr4 BK117
        have hnb27 := NB118_119.out
        have hnc27 := NB119_118.out
        have hnb28 := NB118_120.out
        have hnc28 := NB120_118.out
        obtain ⟨hcz29_0, hcz29_1, hcz29_2, hcz29_3⟩ := ce4 BK118
        obtain ⟨hfz29_0, hfz29_1, hfz29_2, hfz29_3⟩ := fr4 BK118
        go_wp2_with (first | ((with_reducible refine gate_callee (f := 13) rfl ?_); refine goesL_ (some 15) rfl rfl Try.func13 (by kernel_rfl) rfl #[.agg #[.int .i64 a0_0, .int .i64 a0_1, .int .i64 a0_2, .int .i64 a0_3], .agg #[.int .i64 a1_0, .int .i64 a1_1, .slice A1_2 l1_2.length c1_2, .slice A1_3 l1_3.length c1_3]] rfl (by (try simp only [List.map_toArray, List.map_cons, List.map_nil]); first | done | rfl | (simp only [List.length_drop, List.length_take]; rfl)) ?_; (with_reducible refine (fixed_May.calls a0_0 a0_1 a0_2 a0_3 a1_0 a1_1 _ _ l1_2 _ _ l1_3 true _ ?side1 ?side2 ?side3 ?side4 A10.out).mono ?_); (case side1 => repeat (first | exact (Kd.V_reads' HO1_2.out).2.2 | (with_reducible refine Kd.C_alloc ?_ _) | (with_reducible refine Kd.C_drewN ?_ _) | (with_reducible refine Kd.C_drew ?_))); (case side2 => exact (Kd.V_reads' HO1_2.out).2.1); (case side3 => repeat (first | exact (Kd.V_reads' HO1_3.out).2.2 | (with_reducible refine Kd.C_alloc ?_ _) | (with_reducible refine Kd.C_drewN ?_ _) | (with_reducible refine Kd.C_drew ?_))); (case side4 => exact (Kd.V_reads' HO1_3.out).2.1); rintro e w30 ⟨rfl, hb⟩; refine ⟨_, rfl, ?_⟩; replace HO1_2 := vb HO1_2 hb; replace HO1_3 := vb HO1_3 hb; replace BK117 := Aside0.mk (blk_below (bo BK117) hb); replace BK118 := Aside0.mk (blk_below (bo BK118) hb); replace BK119 := Aside0.mk (blk_below (bo BK119) hb); replace BK120 := Aside0.mk (blk_below (bo BK120) hb); replace HB := Aside0.mk (below_step (bl HB) hb); (try clear hb); (try clear hb2); (try clear hk); (try clear hi)) | (go_at_call 21; (with_reducible refine (fixed_time.calls a2 false _ A12.out).mono ?_); rintro e w' ⟨rfl, ⟨nd, rfl⟩⟩))
        go_meet
        case rel => exact ⟨_, (true), (by first | (with_reducible rfl) | rfl | (simp; done) | (simp [*]; done)), H', ⟨by first | omega | exact Nat.le_refl _⟩, ⟨by (with_reducible repeat (first | apply Kd.V_alloc | apply Kd.V_drewN | apply Kd.V_drew)); exact Kd.V_mono HO1_2.out (fun _ hk => ⟨hk.1.1.1.1, ⟨hk.1.1.1.2, ⟨hk.1.1.2, ⟨hk.1.2, hk.2⟩⟩⟩⟩)⟩, ⟨by (with_reducible repeat (first | apply Kd.V_alloc | apply Kd.V_drewN | apply Kd.V_drew)); exact Kd.V_mono HO1_3.out (fun _ hk => ⟨hk.1.1.1.1, ⟨hk.1.1.1.2, ⟨hk.1.1.2, ⟨hk.1.2, hk.2⟩⟩⟩⟩)⟩, ⟨bo BK117⟩, ⟨bo BK118⟩, ⟨bo BK119⟩, ⟨bo BK120⟩, ⟨bl HB⟩⟩
    · replace c11 := Bool.eq_false_iff.mpr c11
      subst c11
      rw [if_neg (show ¬ (false = true) by decide)] at H
      have H' := Aside0.mk H
      clear H
      have hnb31 := NB117_118.out
      have hnc31 := NB118_117.out
      have hnb32 := NB117_119.out
      have hnc32 := NB119_117.out
      have hnb33 := NB117_120.out
      have hnc33 := NB120_117.out
      obtain ⟨hcz34_0, hcz34_1, hcz34_2, hcz34_3⟩ := ce4 BK117
      obtain ⟨hfz34_0, hfz34_1, hfz34_2, hfz34_3⟩ := fr4 BK117
      have hnb35 := NB118_119.out
      have hnc35 := NB119_118.out
      have hnb36 := NB118_120.out
      have hnc36 := NB120_118.out
      obtain ⟨hcz37_0, hcz37_1, hcz37_2, hcz37_3⟩ := ce4 BK118
      obtain ⟨hfz37_0, hfz37_1, hfz37_2, hfz37_3⟩ := fr4 BK118
      go_wp2_with (first | ((with_reducible refine gate_callee (f := 13) rfl ?_); refine goesL_ (some 15) rfl rfl Try.func13 (by kernel_rfl) rfl #[.agg #[.int .i64 a0_0, .int .i64 a0_1, .int .i64 a0_2, .int .i64 a0_3], .agg #[.int .i64 a1_0, .int .i64 a1_1, .slice A1_2 l1_2.length c1_2, .slice A1_3 l1_3.length c1_3]] rfl (by (try simp only [List.map_toArray, List.map_cons, List.map_nil]); first | done | rfl | (simp only [List.length_drop, List.length_take]; rfl)) ?_; (with_reducible refine (fixed_May.calls a0_0 a0_1 a0_2 a0_3 a1_0 a1_1 _ _ l1_2 _ _ l1_3 false _ ?side1 ?side2 ?side3 ?side4 A10.out).mono ?_); (case side1 => repeat (first | exact (Kd.V_reads' HO1_2.out).2.2 | (with_reducible refine Kd.C_alloc ?_ _) | (with_reducible refine Kd.C_drewN ?_ _) | (with_reducible refine Kd.C_drew ?_))); (case side2 => exact (Kd.V_reads' HO1_2.out).2.1); (case side3 => repeat (first | exact (Kd.V_reads' HO1_3.out).2.2 | (with_reducible refine Kd.C_alloc ?_ _) | (with_reducible refine Kd.C_drewN ?_ _) | (with_reducible refine Kd.C_drew ?_))); (case side4 => exact (Kd.V_reads' HO1_3.out).2.1); rintro e w38 ⟨rfl, hb⟩; refine ⟨_, rfl, ?_⟩; replace HO1_2 := vb HO1_2 hb; replace HO1_3 := vb HO1_3 hb; replace BK117 := Aside0.mk (blk_below (bo BK117) hb); replace BK118 := Aside0.mk (blk_below (bo BK118) hb); replace BK119 := Aside0.mk (blk_below (bo BK119) hb); replace BK120 := Aside0.mk (blk_below (bo BK120) hb); replace HB := Aside0.mk (below_step (bl HB) hb); (try clear hb); (try clear hb2); (try clear hk); (try clear hi)))
      go_meet
      case rel => exact ⟨_, (true), (by first | (with_reducible rfl) | rfl | (simp; done) | (simp [*]; done)), H', ⟨by first | omega | exact Nat.le_refl _⟩, ⟨by (with_reducible repeat (first | apply Kd.V_alloc | apply Kd.V_drewN | apply Kd.V_drew)); exact Kd.V_mono HO1_2.out (fun _ hk => ⟨hk.1.1.1.1, ⟨hk.1.1.1.2, ⟨hk.1.1.2, ⟨hk.1.2, hk.2⟩⟩⟩⟩)⟩, ⟨by (with_reducible repeat (first | apply Kd.V_alloc | apply Kd.V_drewN | apply Kd.V_drew)); exact Kd.V_mono HO1_3.out (fun _ hk => ⟨hk.1.1.1.1, ⟨hk.1.1.1.2, ⟨hk.1.1.2, ⟨hk.1.2, hk.2⟩⟩⟩⟩)⟩, ⟨bo BK117⟩, ⟨bo BK118⟩, ⟨bo BK119⟩, ⟨bo BK120⟩, ⟨bl HB⟩⟩
  case rest =>
    clear HC5
    try clear c1
    try clear c2
    try clear p2
    try clear c3
    try clear c10
    try clear c11
    try clear c13
    try clear c15
    try clear c16
    try clear c17
    try clear c19
    try clear c20
    try clear c23
    try clear c24
    try clear c25
    try clear c27
    try clear c28
    try clear c31
    try clear c32
    try clear c33
    try clear c35
    try clear c36
    try clear hcz18_0
    try clear hcz18_1
    try clear hcz18_2
    try clear hcz18_3
    try clear hcz21_0
    try clear hcz21_1
    try clear hcz21_2
    try clear hcz21_3
    try clear hcz26_0
    try clear hcz26_1
    try clear hcz26_2
    try clear hcz26_3
    try clear hcz29_0
    try clear hcz29_1
    try clear hcz29_2
    try clear hcz29_3
    try clear hcz34_0
    try clear hcz34_1
    try clear hcz34_2
    try clear hcz34_3
    try clear hcz37_0
    try clear hcz37_1
    try clear hcz37_2
    try clear hcz37_3
    try clear hfz18_0
    try clear hfz18_1
    try clear hfz18_2
    try clear hfz18_3
    try clear hfz21_0
    try clear hfz21_1
    try clear hfz21_2
    try clear hfz21_3
    try clear hfz26_0
    try clear hfz26_1
    try clear hfz26_2
    try clear hfz26_3
    try clear hfz29_0
    try clear hfz29_1
    try clear hfz29_2
    try clear hfz29_3
    try clear hfz34_0
    try clear hfz34_1
    try clear hfz34_2
    try clear hfz34_3
    try clear hfz37_0
    try clear hfz37_1
    try clear hfz37_2
    try clear hfz37_3
    obtain ⟨kq, x26_4, rfl, HA, HJ4, HO_119002, HO_119003, BK117, BK118, BK119, BK120, HB⟩ := hcut
    cases kq with
    | zero => exact absurd HA.out (by simp [fixed_Ask.j0])
    | succ kj4 =>
      have H := HA.out
      clear HA
      simp only [fixed_Ask.j0] at H
      by_cases c39 : x26_4 = true
      · subst c39
        rw [if_pos rfl] at H
        simp only [Option.some.injEq, Prod.mk.injEq] at H
        obtain ⟨rfl, rfl, rfl, rfl, rfl, rfl, rfl, rfl⟩ := H
        have hnb40 := NB118_117.out
        have hnc40 := NB117_118.out
        have hnb41 := NB118_119.out
        have hnc41 := NB119_118.out
        have hnb42 := NB118_120.out
        have hnc42 := NB120_118.out
        obtain ⟨hcz43_0, hcz43_1, hcz43_2, hcz43_3⟩ := ce4 BK118
        obtain ⟨hfz43_0, hfz43_1, hfz43_2, hfz43_3⟩ := fr4 BK118
        have hnb44 := NB119_117.out
        have hnc44 := NB117_119.out
        have hnb45 := NB119_120.out
        have hnc45 := NB120_119.out
        obtain ⟨hcz46_0, hcz46_1, hcz46_2, hcz46_3⟩ := ce4 BK119
        obtain ⟨hfz46_0, hfz46_1, hfz46_2, hfz46_3⟩ := fr4 BK119
        have hnb47 := NB120_117.out
        have hnc47 := NB117_120.out
        obtain ⟨hcz48_0, hcz48_1, hcz48_2, hcz48_3⟩ := ce4 BK120
        obtain ⟨hfz48_0, hfz48_1, hfz48_2, hfz48_3⟩ := fr4 BK120
        go_wp2
        refine bodyPost_ret (results_cc rfl _ _ gb119 gb120 27 32 #[.int .i64 a1_0, .int .i64 a1_1, .slice A1_2 l1_2.length c1_2, .slice A1_3 l1_3.length c1_3] #[.bool false, .int .i64 0, .int .i64 0, .int .i64 0] (0, 0) (0, 0) _ _ rfl (by (with_reducible repeat (first | refine blk_drewN ?_ _ | refine blk_drew ?_ | refine blk_alloc ?_ _)); refine blk_far ?_ NB119_120.out _; (with_reducible repeat (first | refine blk_drewN ?_ _ | refine blk_drew ?_ | refine blk_alloc ?_ _)); refine blk_far ?_ NB119_120.out _; (with_reducible repeat (first | refine blk_drewN ?_ _ | refine blk_drew ?_ | refine blk_alloc ?_ _)); refine blk_far ?_ NB119_120.out _; (with_reducible repeat (first | refine blk_drewN ?_ _ | refine blk_drew ?_ | refine blk_alloc ?_ _)); refine blk_far ?_ NB119_120.out _; (with_reducible repeat (first | refine blk_drewN ?_ _ | refine blk_drew ?_ | refine blk_alloc ?_ _)); refine blk_put (cs := #[.int .i64 a1_0, .int .i64 a1_1, .slice A1_2 l1_2.length c1_2, .slice none 0 0]) ?_ 3 _ rfl; (with_reducible repeat (first | refine blk_drewN ?_ _ | refine blk_drew ?_ | refine blk_alloc ?_ _)); refine blk_put (cs := #[.int .i64 a1_0, .int .i64 a1_1, .slice none 0 0, .slice none 0 0]) ?_ 2 _ rfl; (with_reducible repeat (first | refine blk_drewN ?_ _ | refine blk_drew ?_ | refine blk_alloc ?_ _)); refine blk_put (cs := #[.int .i64 a1_0, .int .i64 0, .slice none 0 0, .slice none 0 0]) ?_ 1 _ rfl; (with_reducible repeat (first | refine blk_drewN ?_ _ | refine blk_drew ?_ | refine blk_alloc ?_ _)); refine blk_put (cs := #[.int .i64 0, .int .i64 0, .slice none 0 0, .slice none 0 0]) ?_ 0 _ rfl; (with_reducible repeat (first | refine blk_drewN ?_ _ | refine blk_drew ?_ | refine blk_alloc ?_ _)); exact BK119.out) Try.underlying27 rfl (by kernel_rfl) rfl (by (with_reducible repeat (first | refine blk_drewN ?_ _ | refine blk_drew ?_ | refine blk_alloc ?_ _)); refine blk_put (cs := #[.bool false, .int .i64 0, .int .i64 0, .int .i64 0]) ?_ 3 _ rfl; (with_reducible repeat (first | refine blk_drewN ?_ _ | refine blk_drew ?_ | refine blk_alloc ?_ _)); refine blk_put (cs := #[.bool false, .int .i64 0, .int .i64 0, .int .i64 0]) ?_ 2 _ rfl; (with_reducible repeat (first | refine blk_drewN ?_ _ | refine blk_drew ?_ | refine blk_alloc ?_ _)); refine blk_put (cs := #[.bool false, .int .i64 0, .int .i64 0, .int .i64 0]) ?_ 1 _ rfl; (with_reducible repeat (first | refine blk_drewN ?_ _ | refine blk_drew ?_ | refine blk_alloc ?_ _)); refine blk_put (cs := #[.bool false, .int .i64 0, .int .i64 0, .int .i64 0]) ?_ 0 _ rfl; (with_reducible repeat (first | refine blk_drewN ?_ _ | refine blk_drew ?_ | refine blk_alloc ?_ _)); refine blk_far ?_ NB120_119.out _; (with_reducible repeat (first | refine blk_drewN ?_ _ | refine blk_drew ?_ | refine blk_alloc ?_ _)); refine blk_far ?_ NB120_119.out _; (with_reducible repeat (first | refine blk_drewN ?_ _ | refine blk_drew ?_ | refine blk_alloc ?_ _)); refine blk_far ?_ NB120_119.out _; (with_reducible repeat (first | refine blk_drewN ?_ _ | refine blk_drew ?_ | refine blk_alloc ?_ _)); refine blk_far ?_ NB120_119.out _; (with_reducible repeat (first | refine blk_drewN ?_ _ | refine blk_drew ?_ | refine blk_alloc ?_ _)); exact BK120.out) Try.underlying32 rfl (by kernel_rfl)) rfl ?_
        exact ⟨_, _, by first | (with_reducible rfl) | rfl | (simp [errW_none, errW_some] <;> rfl) | (simp [*, errW_none, errW_some] <;> rfl), by (with_reducible repeat (first | apply Kd.V_alloc | apply Kd.V_drewN | apply Kd.V_drew)); exact Kd.V_mono (Kd.V_far (p := ⟨gb120, 3, none⟩) (Kd.V_far (p := ⟨gb120, 2, none⟩) (Kd.V_far (p := ⟨gb120, 1, none⟩) (Kd.V_far (p := ⟨gb120, 0, none⟩) (Kd.V_far (p := ⟨gb119, 3, none⟩) (Kd.V_far (p := ⟨gb119, 2, none⟩) (Kd.V_far (p := ⟨gb119, 1, none⟩) (Kd.V_far (p := ⟨gb119, 0, none⟩) (Kd.V_mono (Kd.V_mono HO_119002.out (fun k_ hk => (⟨hk, hk.2.2.2.1⟩ : _ ∧ k_ ≠ gb119))) (fun k_ hk => (⟨hk, hk.1.2.2.2.2⟩ : _ ∧ k_ ≠ gb120))) (fun _ hk => hk.1.2) (.int .i64 a1_0)) (fun _ hk => hk.1.2) (.int .i64 a1_1)) (fun _ hk => hk.1.2) (.slice A1_2 l1_2.length c1_2)) (fun _ hk => hk.1.2) (.slice A1_3 l1_3.length c1_3)) (fun _ hk => hk.2) (.bool false)) (fun _ hk => hk.2) (.int .i64 0)) (fun _ hk => hk.2) (.int .i64 0)) (fun _ hk => hk.2) (.int .i64 0)) (fun _ hk => hk.1.1.1), by (with_reducible repeat (first | apply Kd.V_alloc | apply Kd.V_drewN | apply Kd.V_drew)); exact Kd.V_mono (Kd.V_far (p := ⟨gb120, 3, none⟩) (Kd.V_far (p := ⟨gb120, 2, none⟩) (Kd.V_far (p := ⟨gb120, 1, none⟩) (Kd.V_far (p := ⟨gb120, 0, none⟩) (Kd.V_far (p := ⟨gb119, 3, none⟩) (Kd.V_far (p := ⟨gb119, 2, none⟩) (Kd.V_far (p := ⟨gb119, 1, none⟩) (Kd.V_far (p := ⟨gb119, 0, none⟩) (Kd.V_mono (Kd.V_mono HO_119003.out (fun k_ hk => (⟨hk, hk.2.2.2.1⟩ : _ ∧ k_ ≠ gb119))) (fun k_ hk => (⟨hk, hk.1.2.2.2.2⟩ : _ ∧ k_ ≠ gb120))) (fun _ hk => hk.1.2) (.int .i64 a1_0)) (fun _ hk => hk.1.2) (.int .i64 a1_1)) (fun _ hk => hk.1.2) (.slice A1_2 l1_2.length c1_2)) (fun _ hk => hk.1.2) (.slice A1_3 l1_3.length c1_3)) (fun _ hk => hk.2) (.bool false)) (fun _ hk => hk.2) (.int .i64 0)) (fun _ hk => hk.2) (.int .i64 0)) (fun _ hk => hk.2) (.int .i64 0)) (fun _ hk => hk.1.1.1), bl HB⟩
      · replace c39 := Bool.eq_false_iff.mpr c39
        subst c39
        rw [if_neg (show ¬ (false = true) by decide)] at H
        obtain ⟨ji49, hji49⟩ : ∃ j_ : Int, (mx a2 a1_0) = j_ := ⟨_, rfl⟩
        replace H : ((fixed_Total.f kj4 a0_0 a0_1 a0_2 a0_3 a1_0 a1_1 l1_2 l1_3 (ji49)).bind fun t124 => ((fixed_of.f a0_0 a0_1 a0_2 a0_3 (ji49)).bind fun bt125 => (if (wrap64 (t124 + a3)) ≤ a0_1 then (fixed_Ask.j1 kj4 ji49 (wrap64 (t124 + a3)) (wrap64 (bt125.2 - (ji49))) a0_0 a0_1 a0_2 a0_3 true 0 0 0) else (if a3 > a0_1 then (fixed_Ask.j1 kj4 ji49 t124 (wrap64 (bt125.2 - (ji49))) a0_0 a0_1 a0_2 a0_3 false 0 2199023255552 0) else (fixed_Ask.j1 kj4 ji49 t124 (wrap64 (bt125.2 - (ji49))) a0_0 a0_1 a0_2 a0_3 false 0 (wrap64 (bt125.2 - (ji49))) 0))))) = some (r1, r2, r3, r4, r5, r6, r7, r8) := by first | (rw [hji49] at H; exact H) | (simp only [hji49] at H ⊢; exact H)
        have hji49_ : (if a2 < a1_0 then a1_0 else a2) = ji49 := hji49
        replace H := Option.bind_eq_some_iff.mp H
        obtain ⟨t124, A500, H⟩ := H
        have A50 := Aside0.mk A500
        clear A500
        replace H := Option.bind_eq_some_iff.mp H
        obtain ⟨⟨t125, t126⟩, A510, H⟩ := H
        have A51 := Aside0.mk A510
        clear A510
        have HC52 := Aside0.mk H
        clear H
        have hnb53 := NB118_117.out
        have hnc53 := NB117_118.out
        have hnb54 := NB118_119.out
        have hnc54 := NB119_118.out
        have hnb55 := NB118_120.out
        have hnc55 := NB120_118.out
        obtain ⟨hcz56_0, hcz56_1, hcz56_2, hcz56_3⟩ := ce4 BK118
        obtain ⟨hfz56_0, hfz56_1, hfz56_2, hfz56_3⟩ := fr4 BK118
        try go_wp2
        replace HO_119002 := Aside0.mk (Kd.V_drew HO_119002.out)
        replace HO_119003 := Aside0.mk (Kd.V_drew HO_119003.out)
        replace BK117 := Aside0.mk (blk_drew BK117.out)
        replace BK118 := Aside0.mk (blk_drew BK118.out)
        replace BK119 := Aside0.mk (blk_drew BK119.out)
        replace BK120 := Aside0.mk (blk_drew BK120.out)
        replace HB := Aside0.mk (below_drew1 HB.out)
        refine start_ (n := 12) (S := fun w' => w'.cell? ⟨gb117, 0, none⟩ = some (.int .i64 a0_0) ∧ w'.cell? ⟨gb117, 1, none⟩ = some (.int .i64 a0_1) ∧ w'.cell? ⟨gb117, 2, none⟩ = some (.int .i64 a0_2) ∧ w'.cell? ⟨gb117, 3, none⟩ = some (.int .i64 a0_3) ∧ w'.cell? ⟨gb118, 0, none⟩ = some (.int .i64 a1_0) ∧ w'.cell? ⟨gb118, 1, none⟩ = some (.int .i64 a1_1) ∧ w'.cell? ⟨gb118, 2, none⟩ = some (.slice A1_2 l1_2.length c1_2) ∧ w'.cell? ⟨gb118, 3, none⟩ = some (.slice A1_3 l1_3.length c1_3)) (ds := []) #[false, false, false, false, false, false, false, false, false, false, false, false] (by kernel_rfl) rfl rfl ⟨(blk_cell BK117.out 0).trans rfl, (blk_cell BK117.out 1).trans rfl, (blk_cell BK117.out 2).trans rfl, (blk_cell BK117.out 3).trans rfl, (blk_cell BK118.out 0).trans rfl, (blk_cell BK118.out 1).trans rfl, (blk_cell BK118.out 2).trans rfl, (blk_cell BK118.out 3).trans rfl⟩ (fun hHeld => ?_); refine with_tabW fixed_Ask.tab4 fixed_Ask.bits4 (fun HT_ HW_ => ?_)
        generalize wc.drew = w57 at HO_119002 HO_119003 BK117 BK118 BK119 BK120 HB hHeld ⊢
        refine pureA 2 35 HT_ ?_
        refine pureA 5 38 HT_ ?_
        refine pureA 8 41 HT_ ?_
        refine takeA 0 33 HT_ HW_ hHeld ?_
        refine takeA 1 34 HT_ HW_ hHeld ?_
        refine takeA 4 37 HT_ HW_ hHeld ?_
        refine one_ (i := 3) (N := some 36) #[true, true, true, true, true, true, false, false, true, false, false, false] rfl rfl (one_of HT_.out (by kernel_rfl)) (by decide) (fun K hK => ?_)
        refine goes_ Try.func15 (by kernel_rfl) rfl #[.agg #[.int .i64 a0_0, .int .i64 a0_1, .int .i64 a0_2, .int .i64 a0_3], .agg #[.int .i64 a1_0, .int .i64 a1_1, .slice A1_2 l1_2.length c1_2, .slice A1_3 l1_3.length c1_3], .int .i64 ji49] (by rfl) rfl rfl (by (try simp only [List.map_toArray, List.map_cons, List.map_nil]); first | done | (simp only [hji49]; rfl) | rfl | (simp only [List.length_drop, List.length_take]; rfl)) ?_
        with_reducible refine (fixed_Total.calls kj4 a0_0 a0_1 a0_2 a0_3 a1_0 a1_1 _ _ l1_2 _ _ l1_3 ji49 t124 _ ?side1 ?side2 ?side3 ?side4 A50.out).mono ?_
        (case side1 => repeat (first | exact (Kd.V_reads' HO_119002.out).2.2 | (with_reducible refine Kd.C_alloc ?_ _) | (with_reducible refine Kd.C_drewN ?_ _) | (with_reducible refine Kd.C_drew ?_)))
        (case side2 => exact (Kd.V_reads' HO_119002.out).2.1)
        (case side3 => repeat (first | exact (Kd.V_reads' HO_119003.out).2.2 | (with_reducible refine Kd.C_alloc ?_ _) | (with_reducible refine Kd.C_drewN ?_ _) | (with_reducible refine Kd.C_drew ?_)))
        (case side4 => exact (Kd.V_reads' HO_119003.out).2.1)
        rintro e w58 ⟨rfl, hb⟩
        refine ⟨_, rfl, ?_⟩
        replace HO_119002 := vb HO_119002 hb
        replace HO_119003 := vb HO_119003 hb
        replace BK117 := Aside0.mk (blk_below (bo BK117) hb)
        replace BK118 := Aside0.mk (blk_below (bo BK118) hb)
        replace BK119 := Aside0.mk (blk_below (bo BK119) hb)
        replace BK120 := Aside0.mk (blk_below (bo BK120) hb)
        replace HB := Aside0.mk (below_step (bl HB) hb)
        (try clear hb)
        (try clear hb2)
        (try clear hk)
        (try clear hi)
        refine hK.out _ _ ⟨(blk_cell BK117.out 0).trans rfl, (blk_cell BK117.out 1).trans rfl, (blk_cell BK117.out 2).trans rfl, (blk_cell BK117.out 3).trans rfl, (blk_cell BK118.out 0).trans rfl, (blk_cell BK118.out 1).trans rfl, (blk_cell BK118.out 2).trans rfl, (blk_cell BK118.out 3).trans rfl⟩ (fun hHeld => ?_)
        clear hK K
        refine norm_ (a' := ?_) ?_ ?_
        rotate_left
        · show Act.put _ (some 36) _ = _
          simp only [Act.put, List.setIfInBounds_toArray, List.set_cons_zero, List.set_cons_succ, i64_w, i32_w]
          rfl
        refine one_ (i := 6) (N := some 39) #[true, true, true, true, true, true, true, false, true, false, false, false] rfl rfl (one_of HT_.out (by kernel_rfl)) (by decide) (fun K hK => ?_)
        refine goes_ Try.func23 (by kernel_rfl) rfl #[.agg #[.int .i64 a0_0, .int .i64 a0_1, .int .i64 a0_2, .int .i64 a0_3], .int .i64 ji49] (by rfl) rfl rfl (by (try simp only [List.map_toArray, List.map_cons, List.map_nil]); first | done | (simp only [hji49]; rfl) | rfl | (simp only [List.length_drop, List.length_take]; rfl)) ?_
        with_reducible refine (fixed_of.calls a0_0 a0_1 a0_2 a0_3 ji49 t125 t126 _ A51.out).mono ?_
        rintro e w59 ⟨rfl, hb⟩
        refine ⟨_, rfl, ?_⟩
        replace HO_119002 := vb HO_119002 hb
        replace HO_119003 := vb HO_119003 hb
        replace BK117 := Aside0.mk (blk_below (bo BK117) hb)
        replace BK118 := Aside0.mk (blk_below (bo BK118) hb)
        replace BK119 := Aside0.mk (blk_below (bo BK119) hb)
        replace BK120 := Aside0.mk (blk_below (bo BK120) hb)
        replace HB := Aside0.mk (below_step (bl HB) hb)
        (try clear hb)
        (try clear hb2)
        (try clear hk)
        (try clear hi)
        refine hK.out _ _ ⟨(blk_cell BK117.out 0).trans rfl, (blk_cell BK117.out 1).trans rfl, (blk_cell BK117.out 2).trans rfl, (blk_cell BK117.out 3).trans rfl, (blk_cell BK118.out 0).trans rfl, (blk_cell BK118.out 1).trans rfl, (blk_cell BK118.out 2).trans rfl, (blk_cell BK118.out 3).trans rfl⟩ (fun hHeld => ?_)
        clear hK K
        refine norm_ (a' := ?_) ?_ ?_
        rotate_left
        · show Act.put _ (some 39) _ = _
          simp only [Act.put, List.setIfInBounds_toArray, List.set_cons_zero, List.set_cons_succ, i64_w, i32_w]
          rfl
        refine pureA 7 40 HT_ ?_
        refine pureA 9 42 HT_ ?_
        refine pureA 10 10 HT_ ?_
        refine pureA 11 11 HT_ ?_
        refine done_ (done_of HT_.out (by kernel_rfl)) ?_
        go_upto_block 0 with (first | ((with_reducible refine gate_dst (N := 12) rfl ?_); refine box_event ?hg (N := 12) ?hd (cs := #[.bool false, .int .i64 0, .int .i64 0, .int .i64 0]) (t := 32) ?hr ?_; (case hd => rfl); (case hg => rfl); (case hr => first | (go_simp; done) | (go_simp; rfl)); intro gb127 hg w60 hbox hb; have BK127 := Aside0.mk (hbox); have GW127 := Aside0.mk ((by rw [hg]; exact (below_size (bl HB)) : w.heap.size ≤ gb127)); have GE127 := Aside0.mk ((by rw [hg]; exact (below_size (bl HB)) : w.heap.size ≤ gb127)); have NB117_127 := nb BK117 hg; have NB127_117 := bn BK117 hg; have NB118_127 := nb BK118 hg; have NB127_118 := bn BK118 hg; have NB119_127 := nb BK119 hg; have NB127_119 := bn BK119 hg; have NB120_127 := nb BK120 hg; have NB127_120 := bn BK120 hg; replace HO_119002 := ve HO_119002 hg hb; replace HO_119003 := ve HO_119003 hg hb; replace BK117 := Aside0.mk (blk_below (bo BK117) hb); replace BK118 := Aside0.mk (blk_below (bo BK118) hb); replace BK119 := Aside0.mk (blk_below (bo BK119) hb); replace BK120 := Aside0.mk (blk_below (bo BK120) hb); replace HB := Aside0.mk (below_step (bl HB) hb); clear hb hbox hg))
        (try simp only [Act.put, List.setIfInBounds_toArray, List.set_cons_zero, List.set_cons_succ])
        go_cut [10] (fun v10 wc => ∃ (kq : Nat) (x10_51 : Int) (x128000_51 : Bool) (x128002_51 : Int), v10 = .int .i64 x10_51 ∧ Aside0 (fixed_Ask.j1 kq ji49 x10_51 (wrap64 (t126 - (ji49))) a0_0 a0_1 a0_2 a0_3 x128000_51 0 x128002_51 0 = some (r1, r2, r3, r4, r5, r6, r7, r8)) ∧ Aside0 (kq ≤ kj4) ∧ Aside0 (Kd.V (Kd.int .i64) 3 wc w.heap.size (fun k_ => ((P1_2_ k_ ∨ P1_3_ k_) ∨ w.heap.size ≤ k_) ∧ k_ ≠ gb117 ∧ k_ ≠ gb118 ∧ k_ ≠ gb119 ∧ k_ ≠ gb120 ∧ k_ ≠ gb127) (.slice A1_2 l1_2.length c1_2) l1_2) ∧ Aside0 (Kd.V k53 53 wc w.heap.size (fun k_ => ((P1_2_ k_ ∨ P1_3_ k_) ∨ w.heap.size ≤ k_) ∧ k_ ≠ gb117 ∧ k_ ≠ gb118 ∧ k_ ≠ gb119 ∧ k_ ≠ gb120 ∧ k_ ≠ gb127) (.slice A1_3 l1_3.length c1_3) l1_3) ∧ Aside0 (wc.heap[gb117]? = some (.cells #[.int .i64 a0_0, .int .i64 a0_1, .int .i64 a0_2, .int .i64 a0_3] 23 (0, 0))) ∧ Aside0 (wc.heap[gb118]? = some (.cells #[.int .i64 a1_0, .int .i64 a1_1, (.slice A1_2 l1_2.length c1_2), (.slice A1_3 l1_3.length c1_3)] 27 (0, 0))) ∧ Aside0 (wc.heap[gb119]? = some (.cells #[.int .i64 0, .int .i64 0, (.slice none 0 0), (.slice none 0 0)] 27 (0, 0))) ∧ Aside0 (wc.heap[gb120]? = some (.cells #[.bool false, .int .i64 0, .int .i64 0, .int .i64 0] 32 (0, 0))) ∧ Aside0 (wc.heap[gb127]? = some (.cells #[.bool x128000_51, .int .i64 0, .int .i64 x128002_51, .int .i64 0] 32 (0, 0))) ∧ Aside0 (Below w.heap.size w wc))
        case first =>
          have H := HC52.out
          clear HC52
          by_cases c61 : (wrap64 (t124 + a3)) ≤ a0_1
          · rw [if_pos c61] at H
            have c61b0 : decide ((wrap64 (t124 + a3)) ≤ a0_1) = true := decide_eq_true c61
            clear c61
            (first | rw [c61b0] | (simp only [i64_w, i32_w]; rw [c61b0]) | skip)
            have H' := Aside0.mk H
            clear H
            have hnb62 := NB117_118.out
            have hnc62 := NB118_117.out
            have hnb63 := NB117_119.out
            have hnc63 := NB119_117.out
            have hnb64 := NB117_120.out
            have hnc64 := NB120_117.out
            have hnb65 := NB117_127.out
            have hnc65 := NB127_117.out
            obtain ⟨hcz66_0, hcz66_1, hcz66_2, hcz66_3⟩ := ce4 BK117
            obtain ⟨hfz66_0, hfz66_1, hfz66_2, hfz66_3⟩ := fr4 BK117
            have hnb67 := NB127_118.out
            have hnc67 := NB118_127.out
            have hnb68 := NB127_119.out
            have hnc68 := NB119_127.out
            have hnb69 := NB127_120.out
            have hnc69 := NB120_127.out
            obtain ⟨hcz70_0, hcz70_1, hcz70_2, hcz70_3⟩ := ce4 BK127
            obtain ⟨hfz70_0, hfz70_1, hfz70_2, hfz70_3⟩ := fr4 BK127
            go_wp2
            go_meet
            case rel => exact ⟨_, (wrap64 (t124 + a3)), (true), (0), (by first | (with_reducible rfl) | rfl | (simp; done) | (simp [*]; done)), H', ⟨by have := HJ4.out; first | omega | exact Nat.le_refl _⟩, ⟨by (with_reducible repeat (first | apply Kd.V_alloc | apply Kd.V_drewN | apply Kd.V_drew)); exact Kd.V_mono (Kd.V_far (p := ⟨gb127, 0, none⟩) (Kd.V_mono HO_119002.out (fun k_ hk => (⟨hk, hk.2⟩ : _ ∧ k_ ≠ gb127))) (fun _ hk => hk.2) (.bool true)) (fun _ hk => ⟨hk.1.1.1, ⟨hk.1.1.2.1, ⟨hk.1.1.2.2.1, ⟨hk.1.1.2.2.2.1, ⟨hk.1.1.2.2.2.2, hk.1.2⟩⟩⟩⟩⟩)⟩, ⟨by (with_reducible repeat (first | apply Kd.V_alloc | apply Kd.V_drewN | apply Kd.V_drew)); exact Kd.V_mono (Kd.V_far (p := ⟨gb127, 0, none⟩) (Kd.V_mono HO_119003.out (fun k_ hk => (⟨hk, hk.2⟩ : _ ∧ k_ ≠ gb127))) (fun _ hk => hk.2) (.bool true)) (fun _ hk => ⟨hk.1.1.1, ⟨hk.1.1.2.1, ⟨hk.1.1.2.2.1, ⟨hk.1.1.2.2.2.1, ⟨hk.1.1.2.2.2.2, hk.1.2⟩⟩⟩⟩⟩)⟩, ⟨by (with_reducible repeat (first | refine blk_drewN ?_ _ | refine blk_drew ?_ | refine blk_alloc ?_ _)); refine blk_far ?_ NB117_127.out _; (with_reducible repeat (first | refine blk_drewN ?_ _ | refine blk_drew ?_ | refine blk_alloc ?_ _)); exact BK117.out⟩, ⟨by (with_reducible repeat (first | refine blk_drewN ?_ _ | refine blk_drew ?_ | refine blk_alloc ?_ _)); refine blk_far ?_ NB118_127.out _; (with_reducible repeat (first | refine blk_drewN ?_ _ | refine blk_drew ?_ | refine blk_alloc ?_ _)); exact BK118.out⟩, ⟨by (with_reducible repeat (first | refine blk_drewN ?_ _ | refine blk_drew ?_ | refine blk_alloc ?_ _)); refine blk_far ?_ NB119_127.out _; (with_reducible repeat (first | refine blk_drewN ?_ _ | refine blk_drew ?_ | refine blk_alloc ?_ _)); exact BK119.out⟩, ⟨by (with_reducible repeat (first | refine blk_drewN ?_ _ | refine blk_drew ?_ | refine blk_alloc ?_ _)); refine blk_far ?_ NB120_127.out _; (with_reducible repeat (first | refine blk_drewN ?_ _ | refine blk_drew ?_ | refine blk_alloc ?_ _)); exact BK120.out⟩, ⟨by (with_reducible repeat (first | refine blk_drewN ?_ _ | refine blk_drew ?_ | refine blk_alloc ?_ _)); refine blk_put (cs := #[.bool false, .int .i64 0, .int .i64 0, .int .i64 0]) ?_ 0 _ rfl; (with_reducible repeat (first | refine blk_drewN ?_ _ | refine blk_drew ?_ | refine blk_alloc ?_ _)); exact BK127.out⟩, ⟨bl HB⟩⟩
          · rw [if_neg c61] at H
            have c61b0 : decide ((wrap64 (t124 + a3)) ≤ a0_1) = false := decide_eq_false c61
            clear c61
            (first | rw [c61b0] | (simp only [i64_w, i32_w]; rw [c61b0]) | skip)
            by_cases c71 : a3 > a0_1
            · rw [if_pos c71] at H
              have c71b0 : decide (a0_1 < a3) = true := decide_eq_true c71
              clear c71
              have H' := Aside0.mk H
              clear H
              have hnb72 := NB117_118.out
              have hnc72 := NB118_117.out
              have hnb73 := NB117_119.out
              have hnc73 := NB119_117.out
              have hnb74 := NB117_120.out
              have hnc74 := NB120_117.out
              have hnb75 := NB117_127.out
              have hnc75 := NB127_117.out
              obtain ⟨hcz76_0, hcz76_1, hcz76_2, hcz76_3⟩ := ce4 BK117
              obtain ⟨hfz76_0, hfz76_1, hfz76_2, hfz76_3⟩ := fr4 BK117
              have hnb77 := NB127_118.out
              have hnc77 := NB118_127.out
              have hnb78 := NB127_119.out
              have hnc78 := NB119_127.out
              have hnb79 := NB127_120.out
              have hnc79 := NB120_127.out
              obtain ⟨hcz80_0, hcz80_1, hcz80_2, hcz80_3⟩ := ce4 BK127
              obtain ⟨hfz80_0, hfz80_1, hfz80_2, hfz80_3⟩ := fr4 BK127
              go_wp2
              go_meet
              case rel => exact ⟨_, (t124), (false), (2199023255552), (by first | (with_reducible rfl) | rfl | (simp; done) | (simp [*]; done)), H', ⟨by have := HJ4.out; first | omega | exact Nat.le_refl _⟩, ⟨by (with_reducible repeat (first | apply Kd.V_alloc | apply Kd.V_drewN | apply Kd.V_drew)); exact Kd.V_mono (Kd.V_far (p := ⟨gb127, 2, none⟩) (Kd.V_mono HO_119002.out (fun k_ hk => (⟨hk, hk.2⟩ : _ ∧ k_ ≠ gb127))) (fun _ hk => hk.2) (.int .i64 2199023255552)) (fun _ hk => ⟨hk.1.1.1, ⟨hk.1.1.2.1, ⟨hk.1.1.2.2.1, ⟨hk.1.1.2.2.2.1, ⟨hk.1.1.2.2.2.2, hk.1.2⟩⟩⟩⟩⟩)⟩, ⟨by (with_reducible repeat (first | apply Kd.V_alloc | apply Kd.V_drewN | apply Kd.V_drew)); exact Kd.V_mono (Kd.V_far (p := ⟨gb127, 2, none⟩) (Kd.V_mono HO_119003.out (fun k_ hk => (⟨hk, hk.2⟩ : _ ∧ k_ ≠ gb127))) (fun _ hk => hk.2) (.int .i64 2199023255552)) (fun _ hk => ⟨hk.1.1.1, ⟨hk.1.1.2.1, ⟨hk.1.1.2.2.1, ⟨hk.1.1.2.2.2.1, ⟨hk.1.1.2.2.2.2, hk.1.2⟩⟩⟩⟩⟩)⟩, ⟨by (with_reducible repeat (first | refine blk_drewN ?_ _ | refine blk_drew ?_ | refine blk_alloc ?_ _)); refine blk_far ?_ NB117_127.out _; (with_reducible repeat (first | refine blk_drewN ?_ _ | refine blk_drew ?_ | refine blk_alloc ?_ _)); exact BK117.out⟩, ⟨by (with_reducible repeat (first | refine blk_drewN ?_ _ | refine blk_drew ?_ | refine blk_alloc ?_ _)); refine blk_far ?_ NB118_127.out _; (with_reducible repeat (first | refine blk_drewN ?_ _ | refine blk_drew ?_ | refine blk_alloc ?_ _)); exact BK118.out⟩, ⟨by (with_reducible repeat (first | refine blk_drewN ?_ _ | refine blk_drew ?_ | refine blk_alloc ?_ _)); refine blk_far ?_ NB119_127.out _; (with_reducible repeat (first | refine blk_drewN ?_ _ | refine blk_drew ?_ | refine blk_alloc ?_ _)); exact BK119.out⟩, ⟨by (with_reducible repeat (first | refine blk_drewN ?_ _ | refine blk_drew ?_ | refine blk_alloc ?_ _)); refine blk_far ?_ NB120_127.out _; (with_reducible repeat (first | refine blk_drewN ?_ _ | refine blk_drew ?_ | refine blk_alloc ?_ _)); exact BK120.out⟩, ⟨by (with_reducible repeat (first | refine blk_drewN ?_ _ | refine blk_drew ?_ | refine blk_alloc ?_ _)); refine blk_put (cs := #[.bool false, .int .i64 0, .int .i64 0, .int .i64 0]) ?_ 2 _ rfl; (with_reducible repeat (first | refine blk_drewN ?_ _ | refine blk_drew ?_ | refine blk_alloc ?_ _)); exact BK127.out⟩, ⟨bl HB⟩⟩
            · rw [if_neg c71] at H
              have c71b0 : decide (a0_1 < a3) = false := decide_eq_false c71
              clear c71
              have H' := Aside0.mk H
              clear H
              have hnb81 := NB117_118.out
              have hnc81 := NB118_117.out
              have hnb82 := NB117_119.out
              have hnc82 := NB119_117.out
              have hnb83 := NB117_120.out
              have hnc83 := NB120_117.out
              have hnb84 := NB117_127.out
              have hnc84 := NB127_117.out
              obtain ⟨hcz85_0, hcz85_1, hcz85_2, hcz85_3⟩ := ce4 BK117
              obtain ⟨hfz85_0, hfz85_1, hfz85_2, hfz85_3⟩ := fr4 BK117
              have hnb86 := NB127_118.out
              have hnc86 := NB118_127.out
              have hnb87 := NB127_119.out
              have hnc87 := NB119_127.out
              have hnb88 := NB127_120.out
              have hnc88 := NB120_127.out
              obtain ⟨hcz89_0, hcz89_1, hcz89_2, hcz89_3⟩ := ce4 BK127
              obtain ⟨hfz89_0, hfz89_1, hfz89_2, hfz89_3⟩ := fr4 BK127
              go_wp2
              go_meet
              case rel => exact ⟨_, (t124), (false), (wrap64 (t126 - (ji49))), (by first | (with_reducible rfl) | rfl | (simp; done) | (simp [*]; done)), H', ⟨by have := HJ4.out; first | omega | exact Nat.le_refl _⟩, ⟨by (with_reducible repeat (first | apply Kd.V_alloc | apply Kd.V_drewN | apply Kd.V_drew)); exact Kd.V_mono (Kd.V_far (p := ⟨gb127, 2, none⟩) (Kd.V_mono HO_119002.out (fun k_ hk => (⟨hk, hk.2⟩ : _ ∧ k_ ≠ gb127))) (fun _ hk => hk.2) (.int .i64 (wrap64 (t126 - (ji49))))) (fun _ hk => ⟨hk.1.1.1, ⟨hk.1.1.2.1, ⟨hk.1.1.2.2.1, ⟨hk.1.1.2.2.2.1, ⟨hk.1.1.2.2.2.2, hk.1.2⟩⟩⟩⟩⟩)⟩, ⟨by (with_reducible repeat (first | apply Kd.V_alloc | apply Kd.V_drewN | apply Kd.V_drew)); exact Kd.V_mono (Kd.V_far (p := ⟨gb127, 2, none⟩) (Kd.V_mono HO_119003.out (fun k_ hk => (⟨hk, hk.2⟩ : _ ∧ k_ ≠ gb127))) (fun _ hk => hk.2) (.int .i64 (wrap64 (t126 - (ji49))))) (fun _ hk => ⟨hk.1.1.1, ⟨hk.1.1.2.1, ⟨hk.1.1.2.2.1, ⟨hk.1.1.2.2.2.1, ⟨hk.1.1.2.2.2.2, hk.1.2⟩⟩⟩⟩⟩)⟩, ⟨by (with_reducible repeat (first | refine blk_drewN ?_ _ | refine blk_drew ?_ | refine blk_alloc ?_ _)); refine blk_far ?_ NB117_127.out _; (with_reducible repeat (first | refine blk_drewN ?_ _ | refine blk_drew ?_ | refine blk_alloc ?_ _)); exact BK117.out⟩, ⟨by (with_reducible repeat (first | refine blk_drewN ?_ _ | refine blk_drew ?_ | refine blk_alloc ?_ _)); refine blk_far ?_ NB118_127.out _; (with_reducible repeat (first | refine blk_drewN ?_ _ | refine blk_drew ?_ | refine blk_alloc ?_ _)); exact BK118.out⟩, ⟨by (with_reducible repeat (first | refine blk_drewN ?_ _ | refine blk_drew ?_ | refine blk_alloc ?_ _)); refine blk_far ?_ NB119_127.out _; (with_reducible repeat (first | refine blk_drewN ?_ _ | refine blk_drew ?_ | refine blk_alloc ?_ _)); exact BK119.out⟩, ⟨by (with_reducible repeat (first | refine blk_drewN ?_ _ | refine blk_drew ?_ | refine blk_alloc ?_ _)); refine blk_far ?_ NB120_127.out _; (with_reducible repeat (first | refine blk_drewN ?_ _ | refine blk_drew ?_ | refine blk_alloc ?_ _)); exact BK120.out⟩, ⟨by (with_reducible repeat (first | refine blk_drewN ?_ _ | refine blk_drew ?_ | refine blk_alloc ?_ _)); refine blk_put (cs := #[.bool false, .int .i64 0, .int .i64 0, .int .i64 0]) ?_ 2 _ rfl; (with_reducible repeat (first | refine blk_drewN ?_ _ | refine blk_drew ?_ | refine blk_alloc ?_ _)); exact BK127.out⟩, ⟨bl HB⟩⟩
        case rest =>
          clear HC52
          try clear c1
          try clear c2
          try clear p2
          try clear c3
          try clear c4
          try clear c5
          try clear c6
          try clear p6
          try clear c7
          try clear c8
          try clear c10
          try clear c11
          try clear c13
          try clear c15
          try clear c16
          try clear c17
          try clear c19
          try clear c20
          try clear c23
          try clear c24
          try clear c25
          try clear c27
          try clear c28
          try clear c31
          try clear c32
          try clear c33
          try clear c35
          try clear c36
          try clear c39
          try clear c40
          try clear c41
          try clear c42
          try clear c44
          try clear c45
          try clear c47
          try clear c53
          try clear c54
          try clear c55
          try clear c61
          try clear c61b0
          try clear c62
          try clear c63
          try clear c64
          try clear p64
          try clear c65
          try clear c67
          try clear c68
          try clear c69
          try clear c71
          try clear c71b0
          try clear c72
          try clear c73
          try clear c74
          try clear c75
          try clear c77
          try clear c78
          try clear c79
          try clear c81
          try clear c82
          try clear c83
          try clear c84
          try clear c86
          try clear c87
          try clear c88
          try clear hcz18_0
          try clear hcz18_1
          try clear hcz18_2
          try clear hcz18_3
          try clear hcz21_0
          try clear hcz21_1
          try clear hcz21_2
          try clear hcz21_3
          try clear hcz26_0
          try clear hcz26_1
          try clear hcz26_2
          try clear hcz26_3
          try clear hcz29_0
          try clear hcz29_1
          try clear hcz29_2
          try clear hcz29_3
          try clear hcz34_0
          try clear hcz34_1
          try clear hcz34_2
          try clear hcz34_3
          try clear hcz37_0
          try clear hcz37_1
          try clear hcz37_2
          try clear hcz37_3
          try clear hcz43_0
          try clear hcz43_1
          try clear hcz43_2
          try clear hcz43_3
          try clear hcz46_0
          try clear hcz46_1
          try clear hcz46_2
          try clear hcz46_3
          try clear hcz48_0
          try clear hcz48_1
          try clear hcz48_2
          try clear hcz48_3
          try clear hcz56_0
          try clear hcz56_1
          try clear hcz56_2
          try clear hcz56_3
          try clear hcz66_0
          try clear hcz66_1
          try clear hcz66_2
          try clear hcz66_3
          try clear hcz70_0
          try clear hcz70_1
          try clear hcz70_2
          try clear hcz70_3
          try clear hcz76_0
          try clear hcz76_1
          try clear hcz76_2
          try clear hcz76_3
          try clear hcz80_0
          try clear hcz80_1
          try clear hcz80_2
          try clear hcz80_3
          try clear hcz85_0
          try clear hcz85_1
          try clear hcz85_2
          try clear hcz85_3
          try clear hcz89_0
          try clear hcz89_1
          try clear hcz89_2
          try clear hcz89_3
          try clear hfz18_0
          try clear hfz18_1
          try clear hfz18_2
          try clear hfz18_3
          try clear hfz21_0
          try clear hfz21_1
          try clear hfz21_2
          try clear hfz21_3
          try clear hfz26_0
          try clear hfz26_1
          try clear hfz26_2
          try clear hfz26_3
          try clear hfz29_0
          try clear hfz29_1
          try clear hfz29_2
          try clear hfz29_3
          try clear hfz34_0
          try clear hfz34_1
          try clear hfz34_2
          try clear hfz34_3
          try clear hfz37_0
          try clear hfz37_1
          try clear hfz37_2
          try clear hfz37_3
          try clear hfz43_0
          try clear hfz43_1
          try clear hfz43_2
          try clear hfz43_3
          try clear hfz46_0
          try clear hfz46_1
          try clear hfz46_2
          try clear hfz46_3
          try clear hfz48_0
          try clear hfz48_1
          try clear hfz48_2
          try clear hfz48_3
          try clear hfz56_0
          try clear hfz56_1
          try clear hfz56_2
          try clear hfz56_3
          try clear hfz66_0
          try clear hfz66_1
          try clear hfz66_2
          try clear hfz66_3
          try clear hfz70_0
          try clear hfz70_1
          try clear hfz70_2
          try clear hfz70_3
          try clear hfz76_0
          try clear hfz76_1
          try clear hfz76_2
          try clear hfz76_3
          try clear hfz80_0
          try clear hfz80_1
          try clear hfz80_2
          try clear hfz80_3
          try clear hfz85_0
          try clear hfz85_1
          try clear hfz85_2
          try clear hfz85_3
          try clear hfz89_0
          try clear hfz89_1
          try clear hfz89_2
          try clear hfz89_3
          try clear p2
          obtain ⟨kq, x10_51, x128000_51, x128002_51, rfl, HA, HJ51, HO_119002, HO_119003, BK117, BK118, BK119, BK120, BK127, HB⟩ := hcut
          cases kq with
          | zero => exact absurd HA.out (by simp [fixed_Ask.j1])
          | succ kj51 =>
            have H := HA.out
            clear HA
            simp only [fixed_Ask.j1] at H
            by_cases c90 : x10_51 > 0
            · rw [if_pos c90] at H
              have c90b0 : decide (0 < x10_51) = true := decide_eq_true c90
              clear c90
              simp only [Option.some.injEq, Prod.mk.injEq] at H
              obtain ⟨rfl, rfl, rfl, rfl, rfl, rfl, rfl, rfl⟩ := H
              have hnb91 := NB117_118.out
              have hnc91 := NB118_117.out
              have hnb92 := NB117_119.out
              have hnc92 := NB119_117.out
              have hnb93 := NB117_120.out
              have hnc93 := NB120_117.out
              have hnb94 := NB117_127.out
              have hnc94 := NB127_117.out
              obtain ⟨hcz95_0, hcz95_1, hcz95_2, hcz95_3⟩ := ce4 BK117
              obtain ⟨hfz95_0, hfz95_1, hfz95_2, hfz95_3⟩ := fr4 BK117
              have hnb96 := NB127_118.out
              have hnc96 := NB118_127.out
              have hnb97 := NB127_119.out
              have hnc97 := NB119_127.out
              have hnb98 := NB127_120.out
              have hnc98 := NB120_127.out
              obtain ⟨hcz99_0, hcz99_1, hcz99_2, hcz99_3⟩ := ce4 BK127
              obtain ⟨hfz99_0, hfz99_1, hfz99_2, hfz99_3⟩ := fr4 BK127
              try go_wp2
              have n0_ : Aside0 (Kd.V (Kd.int .i64) 3 ((wc.setCell ⟨gb127, 1, none⟩ (.int .i64 (wrap64 (a0_1 - x10_51)))).setCell ⟨gb127, 3, none⟩ (.int .i64 (wrap64 (t126 - (ji49))))) w.heap.size (fun k_ => ((P1_2_ k_ ∨ P1_3_ k_) ∨ w.heap.size ≤ k_) ∧ k_ ≠ gb117 ∧ k_ ≠ gb118 ∧ k_ ≠ gb119 ∧ k_ ≠ gb120 ∧ k_ ≠ gb127) (.slice A1_2 l1_2.length c1_2) l1_2) := ⟨by (with_reducible repeat (first | apply Kd.V_alloc | apply Kd.V_drewN | apply Kd.V_drew)); exact Kd.V_mono (Kd.V_far (p := ⟨gb127, 3, none⟩) (Kd.V_far (p := ⟨gb127, 1, none⟩) (Kd.V_mono HO_119002.out (fun k_ hk => (⟨hk, hk.2.2.2.2.2⟩ : _ ∧ k_ ≠ gb127))) (fun _ hk => hk.2) (.int .i64 (wrap64 (a0_1 - x10_51)))) (fun _ hk => hk.2) (.int .i64 (wrap64 (t126 - (ji49))))) (fun _ hk => ⟨hk.1.1, ⟨hk.1.2.1, ⟨hk.1.2.2.1, ⟨hk.1.2.2.2.1, ⟨hk.1.2.2.2.2.1, hk.1.2.2.2.2.2⟩⟩⟩⟩⟩)⟩
              have n1_ : Aside0 (Kd.V k53 53 ((wc.setCell ⟨gb127, 1, none⟩ (.int .i64 (wrap64 (a0_1 - x10_51)))).setCell ⟨gb127, 3, none⟩ (.int .i64 (wrap64 (t126 - (ji49))))) w.heap.size (fun k_ => ((P1_2_ k_ ∨ P1_3_ k_) ∨ w.heap.size ≤ k_) ∧ k_ ≠ gb117 ∧ k_ ≠ gb118 ∧ k_ ≠ gb119 ∧ k_ ≠ gb120 ∧ k_ ≠ gb127) (.slice A1_3 l1_3.length c1_3) l1_3) := ⟨by (with_reducible repeat (first | apply Kd.V_alloc | apply Kd.V_drewN | apply Kd.V_drew)); exact Kd.V_mono (Kd.V_far (p := ⟨gb127, 3, none⟩) (Kd.V_far (p := ⟨gb127, 1, none⟩) (Kd.V_mono HO_119003.out (fun k_ hk => (⟨hk, hk.2.2.2.2.2⟩ : _ ∧ k_ ≠ gb127))) (fun _ hk => hk.2) (.int .i64 (wrap64 (a0_1 - x10_51)))) (fun _ hk => hk.2) (.int .i64 (wrap64 (t126 - (ji49))))) (fun _ hk => ⟨hk.1.1, ⟨hk.1.2.1, ⟨hk.1.2.2.1, ⟨hk.1.2.2.2.1, ⟨hk.1.2.2.2.2.1, hk.1.2.2.2.2.2⟩⟩⟩⟩⟩)⟩
              have n2_ : Aside0 (((wc.setCell ⟨gb127, 1, none⟩ (.int .i64 (wrap64 (a0_1 - x10_51)))).setCell ⟨gb127, 3, none⟩ (.int .i64 (wrap64 (t126 - (ji49))))).heap[gb117]? = some (.cells #[.int .i64 a0_0, .int .i64 a0_1, .int .i64 a0_2, .int .i64 a0_3] 23 (0, 0))) := ⟨by (with_reducible repeat (first | refine blk_drewN ?_ _ | refine blk_drew ?_ | refine blk_alloc ?_ _)); refine blk_far ?_ NB117_127.out _; (with_reducible repeat (first | refine blk_drewN ?_ _ | refine blk_drew ?_ | refine blk_alloc ?_ _)); refine blk_far ?_ NB117_127.out _; (with_reducible repeat (first | refine blk_drewN ?_ _ | refine blk_drew ?_ | refine blk_alloc ?_ _)); exact BK117.out⟩
              have n3_ : Aside0 (((wc.setCell ⟨gb127, 1, none⟩ (.int .i64 (wrap64 (a0_1 - x10_51)))).setCell ⟨gb127, 3, none⟩ (.int .i64 (wrap64 (t126 - (ji49))))).heap[gb118]? = some (.cells #[.int .i64 a1_0, .int .i64 a1_1, .slice A1_2 l1_2.length c1_2, .slice A1_3 l1_3.length c1_3] 27 (0, 0))) := ⟨by (with_reducible repeat (first | refine blk_drewN ?_ _ | refine blk_drew ?_ | refine blk_alloc ?_ _)); refine blk_far ?_ NB118_127.out _; (with_reducible repeat (first | refine blk_drewN ?_ _ | refine blk_drew ?_ | refine blk_alloc ?_ _)); refine blk_far ?_ NB118_127.out _; (with_reducible repeat (first | refine blk_drewN ?_ _ | refine blk_drew ?_ | refine blk_alloc ?_ _)); exact BK118.out⟩
              have n4_ : Aside0 (((wc.setCell ⟨gb127, 1, none⟩ (.int .i64 (wrap64 (a0_1 - x10_51)))).setCell ⟨gb127, 3, none⟩ (.int .i64 (wrap64 (t126 - (ji49))))).heap[gb119]? = some (.cells #[.int .i64 0, .int .i64 0, .slice none 0 0, .slice none 0 0] 27 (0, 0))) := ⟨by (with_reducible repeat (first | refine blk_drewN ?_ _ | refine blk_drew ?_ | refine blk_alloc ?_ _)); refine blk_far ?_ NB119_127.out _; (with_reducible repeat (first | refine blk_drewN ?_ _ | refine blk_drew ?_ | refine blk_alloc ?_ _)); refine blk_far ?_ NB119_127.out _; (with_reducible repeat (first | refine blk_drewN ?_ _ | refine blk_drew ?_ | refine blk_alloc ?_ _)); exact BK119.out⟩
              have n5_ : Aside0 (((wc.setCell ⟨gb127, 1, none⟩ (.int .i64 (wrap64 (a0_1 - x10_51)))).setCell ⟨gb127, 3, none⟩ (.int .i64 (wrap64 (t126 - (ji49))))).heap[gb120]? = some (.cells #[.bool false, .int .i64 0, .int .i64 0, .int .i64 0] 32 (0, 0))) := ⟨by (with_reducible repeat (first | refine blk_drewN ?_ _ | refine blk_drew ?_ | refine blk_alloc ?_ _)); refine blk_far ?_ NB120_127.out _; (with_reducible repeat (first | refine blk_drewN ?_ _ | refine blk_drew ?_ | refine blk_alloc ?_ _)); refine blk_far ?_ NB120_127.out _; (with_reducible repeat (first | refine blk_drewN ?_ _ | refine blk_drew ?_ | refine blk_alloc ?_ _)); exact BK120.out⟩
              have n6_ : Aside0 (((wc.setCell ⟨gb127, 1, none⟩ (.int .i64 (wrap64 (a0_1 - x10_51)))).setCell ⟨gb127, 3, none⟩ (.int .i64 (wrap64 (t126 - (ji49))))).heap[gb127]? = some (.cells #[.bool x128000_51, .int .i64 (wrap64 (a0_1 - x10_51)), .int .i64 x128002_51, .int .i64 (wrap64 (t126 - (ji49)))] 32 (0, 0))) := ⟨by (with_reducible repeat (first | refine blk_drewN ?_ _ | refine blk_drew ?_ | refine blk_alloc ?_ _)); refine blk_put (cs := #[.bool x128000_51, .int .i64 (wrap64 (a0_1 - x10_51)), .int .i64 x128002_51, .int .i64 0]) ?_ 3 _ rfl; (with_reducible repeat (first | refine blk_drewN ?_ _ | refine blk_drew ?_ | refine blk_alloc ?_ _)); refine blk_put (cs := #[.bool x128000_51, .int .i64 0, .int .i64 x128002_51, .int .i64 0]) ?_ 1 _ rfl; (with_reducible repeat (first | refine blk_drewN ?_ _ | refine blk_drew ?_ | refine blk_alloc ?_ _)); exact BK127.out⟩
              have n7_ : Aside0 (Below w.heap.size w ((wc.setCell ⟨gb127, 1, none⟩ (.int .i64 (wrap64 (a0_1 - x10_51)))).setCell ⟨gb127, 3, none⟩ (.int .i64 (wrap64 (t126 - (ji49)))))) := ⟨bl HB⟩
              (try clear HO_119002)
              (try clear HO_119003)
              (try clear BK117)
              (try clear BK118)
              (try clear BK119)
              (try clear BK120)
              (try clear BK127)
              (try clear HB)
              generalize ((wc.setCell ⟨gb127, 1, none⟩ (.int .i64 (wrap64 (a0_1 - x10_51)))).setCell ⟨gb127, 3, none⟩ (.int .i64 (wrap64 (t126 - (ji49))))) = w100 at n0_ n1_ n2_ n3_ n4_ n5_ n6_ n7_ ⊢
              have HO_119002 := n0_
              have HO_119003 := n1_
              have BK117 := n2_
              have BK118 := n3_
              have BK119 := n4_
              have BK120 := n5_
              have BK127 := n6_
              have HB := n7_
              clear n0_ n1_ n2_ n3_ n4_ n5_ n6_ n7_
              replace HO_119002 := Aside0.mk (Kd.V_drew HO_119002.out)
              replace HO_119003 := Aside0.mk (Kd.V_drew HO_119003.out)
              replace BK117 := Aside0.mk (blk_drew BK117.out)
              replace BK118 := Aside0.mk (blk_drew BK118.out)
              replace BK119 := Aside0.mk (blk_drew BK119.out)
              replace BK120 := Aside0.mk (blk_drew BK120.out)
              replace BK127 := Aside0.mk (blk_drew BK127.out)
              replace HB := Aside0.mk (below_drew1 HB.out)
              refine start_ (n := 6) (S := fun w' => w'.cell? ⟨gb127, 0, none⟩ = some (.bool x128000_51) ∧ w'.cell? ⟨gb127, 1, none⟩ = some (.int .i64 (wrap64 (a0_1 - x10_51))) ∧ w'.cell? ⟨gb127, 2, none⟩ = some (.int .i64 x128002_51) ∧ w'.cell? ⟨gb127, 3, none⟩ = some (.int .i64 (wrap64 (t126 - (ji49))))) (ds := []) #[false, false, false, false, false, false] (by kernel_rfl) rfl rfl ⟨(blk_cell BK127.out 0).trans rfl, (blk_cell BK127.out 1).trans rfl, (blk_cell BK127.out 2).trans rfl, (blk_cell BK127.out 3).trans rfl⟩ (fun hHeld => ?_)
              generalize w100.drew = w101 at HO_119002 HO_119003 BK117 BK118 BK119 BK120 BK127 HB hHeld ⊢
              refine pureB 0 71 ?_
              refine pureB 1 72 ?_
              refine pureB 2 73 ?_
              refine takeB' 3 74 hHeld ?_
              refine one_ (i := 4) (N := none) #[true, true, true, true, true, false] rfl rfl (by kernel_rfl) (by decide) (fun K hK => ?_)
              have hs102 : w101.cell? ⟨gb119, 0, none⟩ = some (.int .i64 0) := (blk_cell BK119.out 0).trans rfl
              have hfs102 := blk_frozen BK119.out 0
              have hns102_0 := NB117_119.out
              have hns102_1 := NB118_119.out
              have hns102_3 := NB120_119.out
              have hns102_4 := NB127_119.out
              have hms102_0 := NB119_117.out
              have hms102_1 := NB119_118.out
              have hms102_3 := NB119_120.out
              have hms102_4 := NB119_127.out
              have hs103 : w101.cell? ⟨gb119, 1, none⟩ = some (.int .i64 0) := (blk_cell BK119.out 1).trans rfl
              have hfs103 := blk_frozen BK119.out 1
              have hns103_0 := NB117_119.out
              have hns103_1 := NB118_119.out
              have hns103_3 := NB120_119.out
              have hns103_4 := NB127_119.out
              have hms103_0 := NB119_117.out
              have hms103_1 := NB119_118.out
              have hms103_3 := NB119_120.out
              have hms103_4 := NB119_127.out
              have hs104 : w101.cell? ⟨gb119, 2, none⟩ = some (.slice none 0 0) := (blk_cell BK119.out 2).trans rfl
              have hfs104 := blk_frozen BK119.out 2
              have hns104_0 := NB117_119.out
              have hns104_1 := NB118_119.out
              have hns104_3 := NB120_119.out
              have hns104_4 := NB127_119.out
              have hms104_0 := NB119_117.out
              have hms104_1 := NB119_118.out
              have hms104_3 := NB119_120.out
              have hms104_4 := NB119_127.out
              have hs105 : w101.cell? ⟨gb119, 3, none⟩ = some (.slice none 0 0) := (blk_cell BK119.out 3).trans rfl
              have hfs105 := blk_frozen BK119.out 3
              have hns105_0 := NB117_119.out
              have hns105_1 := NB118_119.out
              have hns105_3 := NB120_119.out
              have hns105_4 := NB127_119.out
              have hms105_0 := NB119_117.out
              have hms105_1 := NB119_118.out
              have hms105_3 := NB119_120.out
              have hms105_4 := NB119_127.out
              refine skip_ (w1 := ?_) (by rfl) rfl ?_ ?_
              rotate_left
              · go_simp
                rfl
              refine hK.out _ _ ⟨((cell_far (p := ⟨gb119, _, none⟩) NB127_119.out _).trans (((cell_far (p := ⟨gb119, _, none⟩) NB127_119.out _).trans (((cell_far (p := ⟨gb119, _, none⟩) NB127_119.out _).trans (((cell_far (p := ⟨gb119, _, none⟩) NB127_119.out _).trans (hHeld.1)))))))), ((cell_far (p := ⟨gb119, _, none⟩) NB127_119.out _).trans (((cell_far (p := ⟨gb119, _, none⟩) NB127_119.out _).trans (((cell_far (p := ⟨gb119, _, none⟩) NB127_119.out _).trans (((cell_far (p := ⟨gb119, _, none⟩) NB127_119.out _).trans (hHeld.2.1)))))))), ((cell_far (p := ⟨gb119, _, none⟩) NB127_119.out _).trans (((cell_far (p := ⟨gb119, _, none⟩) NB127_119.out _).trans (((cell_far (p := ⟨gb119, _, none⟩) NB127_119.out _).trans (((cell_far (p := ⟨gb119, _, none⟩) NB127_119.out _).trans (hHeld.2.2.1)))))))), ((cell_far (p := ⟨gb119, _, none⟩) NB127_119.out _).trans (((cell_far (p := ⟨gb119, _, none⟩) NB127_119.out _).trans (((cell_far (p := ⟨gb119, _, none⟩) NB127_119.out _).trans (((cell_far (p := ⟨gb119, _, none⟩) NB127_119.out _).trans (hHeld.2.2.2))))))))⟩ (fun hHeld => ?_)
              clear hK K
              refine one_ (i := 5) (N := none) #[true, true, true, true, true, true] rfl rfl (by kernel_rfl) (by decide) (fun K hK => ?_)
              have hs106 : w101.cell? ⟨gb120, 0, none⟩ = some (.bool false) := (blk_cell BK120.out 0).trans rfl
              have hfs106 := blk_frozen BK120.out 0
              have hns106_0 := NB117_120.out
              have hns106_1 := NB118_120.out
              have hns106_2 := NB119_120.out
              have hns106_4 := NB127_120.out
              have hms106_0 := NB120_117.out
              have hms106_1 := NB120_118.out
              have hms106_2 := NB120_119.out
              have hms106_4 := NB120_127.out
              have hs107 : w101.cell? ⟨gb120, 1, none⟩ = some (.int .i64 0) := (blk_cell BK120.out 1).trans rfl
              have hfs107 := blk_frozen BK120.out 1
              have hns107_0 := NB117_120.out
              have hns107_1 := NB118_120.out
              have hns107_2 := NB119_120.out
              have hns107_4 := NB127_120.out
              have hms107_0 := NB120_117.out
              have hms107_1 := NB120_118.out
              have hms107_2 := NB120_119.out
              have hms107_4 := NB120_127.out
              have hs108 : w101.cell? ⟨gb120, 2, none⟩ = some (.int .i64 0) := (blk_cell BK120.out 2).trans rfl
              have hfs108 := blk_frozen BK120.out 2
              have hns108_0 := NB117_120.out
              have hns108_1 := NB118_120.out
              have hns108_2 := NB119_120.out
              have hns108_4 := NB127_120.out
              have hms108_0 := NB120_117.out
              have hms108_1 := NB120_118.out
              have hms108_2 := NB120_119.out
              have hms108_4 := NB120_127.out
              have hs109 : w101.cell? ⟨gb120, 3, none⟩ = some (.int .i64 0) := (blk_cell BK120.out 3).trans rfl
              have hfs109 := blk_frozen BK120.out 3
              have hns109_0 := NB117_120.out
              have hns109_1 := NB118_120.out
              have hns109_2 := NB119_120.out
              have hns109_4 := NB127_120.out
              have hms109_0 := NB120_117.out
              have hms109_1 := NB120_118.out
              have hms109_2 := NB120_119.out
              have hms109_4 := NB120_127.out
              refine skip_ (w1 := ?_) (by rfl) rfl ?_ ?_
              rotate_left
              · go_simp
                rfl
              refine hK.out _ _ ⟨((cell_far (p := ⟨gb120, _, none⟩) NB127_120.out _).trans (((cell_far (p := ⟨gb120, _, none⟩) NB127_120.out _).trans (((cell_far (p := ⟨gb120, _, none⟩) NB127_120.out _).trans (((cell_far (p := ⟨gb120, _, none⟩) NB127_120.out _).trans (hHeld.1)))))))), ((cell_far (p := ⟨gb120, _, none⟩) NB127_120.out _).trans (((cell_far (p := ⟨gb120, _, none⟩) NB127_120.out _).trans (((cell_far (p := ⟨gb120, _, none⟩) NB127_120.out _).trans (((cell_far (p := ⟨gb120, _, none⟩) NB127_120.out _).trans (hHeld.2.1)))))))), ((cell_far (p := ⟨gb120, _, none⟩) NB127_120.out _).trans (((cell_far (p := ⟨gb120, _, none⟩) NB127_120.out _).trans (((cell_far (p := ⟨gb120, _, none⟩) NB127_120.out _).trans (((cell_far (p := ⟨gb120, _, none⟩) NB127_120.out _).trans (hHeld.2.2.1)))))))), ((cell_far (p := ⟨gb120, _, none⟩) NB127_120.out _).trans (((cell_far (p := ⟨gb120, _, none⟩) NB127_120.out _).trans (((cell_far (p := ⟨gb120, _, none⟩) NB127_120.out _).trans (((cell_far (p := ⟨gb120, _, none⟩) NB127_120.out _).trans (hHeld.2.2.2))))))))⟩ (fun hHeld => ?_)
              clear hK K
              refine done_ (by kernel_rfl) ?_
              try go_wp2
              refine bodyPost_ret (results_cc rfl _ _ gb119 gb120 27 32 #[.int .i64 ji49, .int .i64 x10_51, .slice none 0 0, .slice none 0 0] #[.bool x128000_51, .int .i64 (wrap64 (a0_1 - x10_51)), .int .i64 x128002_51, .int .i64 (wrap64 (t126 - (ji49)))] (0, 0) (0, 0) _ _ rfl (by (with_reducible repeat (first | refine blk_drewN ?_ _ | refine blk_drew ?_ | refine blk_alloc ?_ _)); refine blk_far ?_ NB119_120.out _; (with_reducible repeat (first | refine blk_drewN ?_ _ | refine blk_drew ?_ | refine blk_alloc ?_ _)); refine blk_far ?_ NB119_120.out _; (with_reducible repeat (first | refine blk_drewN ?_ _ | refine blk_drew ?_ | refine blk_alloc ?_ _)); refine blk_far ?_ NB119_120.out _; (with_reducible repeat (first | refine blk_drewN ?_ _ | refine blk_drew ?_ | refine blk_alloc ?_ _)); refine blk_far ?_ NB119_120.out _; (with_reducible repeat (first | refine blk_drewN ?_ _ | refine blk_drew ?_ | refine blk_alloc ?_ _)); refine blk_put (cs := #[.int .i64 ji49, .int .i64 x10_51, .slice none 0 0, .slice none 0 0]) ?_ 3 _ rfl; (with_reducible repeat (first | refine blk_drewN ?_ _ | refine blk_drew ?_ | refine blk_alloc ?_ _)); refine blk_put (cs := #[.int .i64 ji49, .int .i64 x10_51, .slice none 0 0, .slice none 0 0]) ?_ 2 _ rfl; (with_reducible repeat (first | refine blk_drewN ?_ _ | refine blk_drew ?_ | refine blk_alloc ?_ _)); refine blk_put (cs := #[.int .i64 ji49, .int .i64 0, .slice none 0 0, .slice none 0 0]) ?_ 1 _ rfl; (with_reducible repeat (first | refine blk_drewN ?_ _ | refine blk_drew ?_ | refine blk_alloc ?_ _)); refine blk_put (cs := #[.int .i64 0, .int .i64 0, .slice none 0 0, .slice none 0 0]) ?_ 0 _ rfl; (with_reducible repeat (first | refine blk_drewN ?_ _ | refine blk_drew ?_ | refine blk_alloc ?_ _)); exact BK119.out) Try.underlying27 rfl (by kernel_rfl) rfl (by (with_reducible repeat (first | refine blk_drewN ?_ _ | refine blk_drew ?_ | refine blk_alloc ?_ _)); refine blk_put (cs := #[.bool x128000_51, .int .i64 (wrap64 (a0_1 - x10_51)), .int .i64 x128002_51, .int .i64 0]) ?_ 3 _ rfl; (with_reducible repeat (first | refine blk_drewN ?_ _ | refine blk_drew ?_ | refine blk_alloc ?_ _)); refine blk_put (cs := #[.bool x128000_51, .int .i64 (wrap64 (a0_1 - x10_51)), .int .i64 0, .int .i64 0]) ?_ 2 _ rfl; (with_reducible repeat (first | refine blk_drewN ?_ _ | refine blk_drew ?_ | refine blk_alloc ?_ _)); refine blk_put (cs := #[.bool x128000_51, .int .i64 0, .int .i64 0, .int .i64 0]) ?_ 1 _ rfl; (with_reducible repeat (first | refine blk_drewN ?_ _ | refine blk_drew ?_ | refine blk_alloc ?_ _)); refine blk_put (cs := #[.bool false, .int .i64 0, .int .i64 0, .int .i64 0]) ?_ 0 _ rfl; (with_reducible repeat (first | refine blk_drewN ?_ _ | refine blk_drew ?_ | refine blk_alloc ?_ _)); refine blk_far ?_ NB120_119.out _; (with_reducible repeat (first | refine blk_drewN ?_ _ | refine blk_drew ?_ | refine blk_alloc ?_ _)); refine blk_far ?_ NB120_119.out _; (with_reducible repeat (first | refine blk_drewN ?_ _ | refine blk_drew ?_ | refine blk_alloc ?_ _)); refine blk_far ?_ NB120_119.out _; (with_reducible repeat (first | refine blk_drewN ?_ _ | refine blk_drew ?_ | refine blk_alloc ?_ _)); refine blk_far ?_ NB120_119.out _; (with_reducible repeat (first | refine blk_drewN ?_ _ | refine blk_drew ?_ | refine blk_alloc ?_ _)); exact BK120.out) Try.underlying32 rfl (by kernel_rfl)) rfl ?_
              exact ⟨_, _, by first | (with_reducible rfl) | (simp only [← hji49]; with_reducible rfl) | (simp only [← hji49]; done) | rfl | (simp [errW_none, errW_some] <;> rfl) | (simp only [← hji49]; first | rfl | (simp [errW_none, errW_some] <;> rfl)) | (simp [*, errW_none, errW_some] <;> rfl), Kd.V_nil _ _ _ _ _, Kd.V_nil _ _ _ _ _, bl HB⟩
            · rw [if_neg c90] at H
              have c90b0 : decide (0 < x10_51) = false := decide_eq_false c90
              clear c90
              simp only [Option.some.injEq, Prod.mk.injEq] at H
              obtain ⟨rfl, rfl, rfl, rfl, rfl, rfl, rfl, rfl⟩ := H
              have hnb110 := NB117_118.out
              have hnc110 := NB118_117.out
              have hnb111 := NB117_119.out
              have hnc111 := NB119_117.out
              have hnb112 := NB117_120.out
              have hnc112 := NB120_117.out
              have hnb113 := NB117_127.out
              have hnc113 := NB127_117.out
              obtain ⟨hcz114_0, hcz114_1, hcz114_2, hcz114_3⟩ := ce4 BK117
              obtain ⟨hfz114_0, hfz114_1, hfz114_2, hfz114_3⟩ := fr4 BK117
              have hnb115 := NB127_118.out
              have hnc115 := NB118_127.out
              have hnb116 := NB127_119.out
              have hnc116 := NB119_127.out
              have hnb117 := NB127_120.out
              have hnc117 := NB120_127.out
              obtain ⟨hcz118_0, hcz118_1, hcz118_2, hcz118_3⟩ := ce4 BK127
              obtain ⟨hfz118_0, hfz118_1, hfz118_2, hfz118_3⟩ := fr4 BK127
              try go_wp2
              have n0_ : Aside0 (Kd.V (Kd.int .i64) 3 (wc.setCell ⟨gb127, 1, none⟩ (.int .i64 (wrap64 (a0_1 - x10_51)))) w.heap.size (fun k_ => ((P1_2_ k_ ∨ P1_3_ k_) ∨ w.heap.size ≤ k_) ∧ k_ ≠ gb117 ∧ k_ ≠ gb118 ∧ k_ ≠ gb119 ∧ k_ ≠ gb120 ∧ k_ ≠ gb127) (.slice A1_2 l1_2.length c1_2) l1_2) := ⟨by (with_reducible repeat (first | apply Kd.V_alloc | apply Kd.V_drewN | apply Kd.V_drew)); exact Kd.V_mono (Kd.V_far (p := ⟨gb127, 1, none⟩) (Kd.V_mono HO_119002.out (fun k_ hk => (⟨hk, hk.2.2.2.2.2⟩ : _ ∧ k_ ≠ gb127))) (fun _ hk => hk.2) (.int .i64 (wrap64 (a0_1 - x10_51)))) (fun _ hk => ⟨hk.1.1, ⟨hk.1.2.1, ⟨hk.1.2.2.1, ⟨hk.1.2.2.2.1, ⟨hk.1.2.2.2.2.1, hk.1.2.2.2.2.2⟩⟩⟩⟩⟩)⟩
              have n1_ : Aside0 (Kd.V k53 53 (wc.setCell ⟨gb127, 1, none⟩ (.int .i64 (wrap64 (a0_1 - x10_51)))) w.heap.size (fun k_ => ((P1_2_ k_ ∨ P1_3_ k_) ∨ w.heap.size ≤ k_) ∧ k_ ≠ gb117 ∧ k_ ≠ gb118 ∧ k_ ≠ gb119 ∧ k_ ≠ gb120 ∧ k_ ≠ gb127) (.slice A1_3 l1_3.length c1_3) l1_3) := ⟨by (with_reducible repeat (first | apply Kd.V_alloc | apply Kd.V_drewN | apply Kd.V_drew)); exact Kd.V_mono (Kd.V_far (p := ⟨gb127, 1, none⟩) (Kd.V_mono HO_119003.out (fun k_ hk => (⟨hk, hk.2.2.2.2.2⟩ : _ ∧ k_ ≠ gb127))) (fun _ hk => hk.2) (.int .i64 (wrap64 (a0_1 - x10_51)))) (fun _ hk => ⟨hk.1.1, ⟨hk.1.2.1, ⟨hk.1.2.2.1, ⟨hk.1.2.2.2.1, ⟨hk.1.2.2.2.2.1, hk.1.2.2.2.2.2⟩⟩⟩⟩⟩)⟩
              have n2_ : Aside0 ((wc.setCell ⟨gb127, 1, none⟩ (.int .i64 (wrap64 (a0_1 - x10_51)))).heap[gb117]? = some (.cells #[.int .i64 a0_0, .int .i64 a0_1, .int .i64 a0_2, .int .i64 a0_3] 23 (0, 0))) := ⟨by (with_reducible repeat (first | refine blk_drewN ?_ _ | refine blk_drew ?_ | refine blk_alloc ?_ _)); refine blk_far ?_ NB117_127.out _; (with_reducible repeat (first | refine blk_drewN ?_ _ | refine blk_drew ?_ | refine blk_alloc ?_ _)); exact BK117.out⟩
              have n3_ : Aside0 ((wc.setCell ⟨gb127, 1, none⟩ (.int .i64 (wrap64 (a0_1 - x10_51)))).heap[gb118]? = some (.cells #[.int .i64 a1_0, .int .i64 a1_1, .slice A1_2 l1_2.length c1_2, .slice A1_3 l1_3.length c1_3] 27 (0, 0))) := ⟨by (with_reducible repeat (first | refine blk_drewN ?_ _ | refine blk_drew ?_ | refine blk_alloc ?_ _)); refine blk_far ?_ NB118_127.out _; (with_reducible repeat (first | refine blk_drewN ?_ _ | refine blk_drew ?_ | refine blk_alloc ?_ _)); exact BK118.out⟩
              have n4_ : Aside0 ((wc.setCell ⟨gb127, 1, none⟩ (.int .i64 (wrap64 (a0_1 - x10_51)))).heap[gb119]? = some (.cells #[.int .i64 0, .int .i64 0, .slice none 0 0, .slice none 0 0] 27 (0, 0))) := ⟨by (with_reducible repeat (first | refine blk_drewN ?_ _ | refine blk_drew ?_ | refine blk_alloc ?_ _)); refine blk_far ?_ NB119_127.out _; (with_reducible repeat (first | refine blk_drewN ?_ _ | refine blk_drew ?_ | refine blk_alloc ?_ _)); exact BK119.out⟩
              have n5_ : Aside0 ((wc.setCell ⟨gb127, 1, none⟩ (.int .i64 (wrap64 (a0_1 - x10_51)))).heap[gb120]? = some (.cells #[.bool false, .int .i64 0, .int .i64 0, .int .i64 0] 32 (0, 0))) := ⟨by (with_reducible repeat (first | refine blk_drewN ?_ _ | refine blk_drew ?_ | refine blk_alloc ?_ _)); refine blk_far ?_ NB120_127.out _; (with_reducible repeat (first | refine blk_drewN ?_ _ | refine blk_drew ?_ | refine blk_alloc ?_ _)); exact BK120.out⟩
              have n6_ : Aside0 ((wc.setCell ⟨gb127, 1, none⟩ (.int .i64 (wrap64 (a0_1 - x10_51)))).heap[gb127]? = some (.cells #[.bool x128000_51, .int .i64 (wrap64 (a0_1 - x10_51)), .int .i64 x128002_51, .int .i64 0] 32 (0, 0))) := ⟨by (with_reducible repeat (first | refine blk_drewN ?_ _ | refine blk_drew ?_ | refine blk_alloc ?_ _)); refine blk_put (cs := #[.bool x128000_51, .int .i64 0, .int .i64 x128002_51, .int .i64 0]) ?_ 1 _ rfl; (with_reducible repeat (first | refine blk_drewN ?_ _ | refine blk_drew ?_ | refine blk_alloc ?_ _)); exact BK127.out⟩
              have n7_ : Aside0 (Below w.heap.size w (wc.setCell ⟨gb127, 1, none⟩ (.int .i64 (wrap64 (a0_1 - x10_51))))) := ⟨bl HB⟩
              (try clear HO_119002)
              (try clear HO_119003)
              (try clear BK117)
              (try clear BK118)
              (try clear BK119)
              (try clear BK120)
              (try clear BK127)
              (try clear HB)
              generalize (wc.setCell ⟨gb127, 1, none⟩ (.int .i64 (wrap64 (a0_1 - x10_51)))) = w119 at n0_ n1_ n2_ n3_ n4_ n5_ n6_ n7_ ⊢
              have HO_119002 := n0_
              have HO_119003 := n1_
              have BK117 := n2_
              have BK118 := n3_
              have BK119 := n4_
              have BK120 := n5_
              have BK127 := n6_
              have HB := n7_
              clear n0_ n1_ n2_ n3_ n4_ n5_ n6_ n7_
              replace HO_119002 := Aside0.mk (Kd.V_drew HO_119002.out)
              replace HO_119003 := Aside0.mk (Kd.V_drew HO_119003.out)
              replace BK117 := Aside0.mk (blk_drew BK117.out)
              replace BK118 := Aside0.mk (blk_drew BK118.out)
              replace BK119 := Aside0.mk (blk_drew BK119.out)
              replace BK120 := Aside0.mk (blk_drew BK120.out)
              replace BK127 := Aside0.mk (blk_drew BK127.out)
              replace HB := Aside0.mk (below_drew1 HB.out)
              refine start_ (n := 6) (S := fun w' => w'.cell? ⟨gb127, 0, none⟩ = some (.bool x128000_51) ∧ w'.cell? ⟨gb127, 1, none⟩ = some (.int .i64 (wrap64 (a0_1 - x10_51))) ∧ w'.cell? ⟨gb127, 2, none⟩ = some (.int .i64 x128002_51) ∧ w'.cell? ⟨gb127, 3, none⟩ = some (.int .i64 0)) (ds := []) #[false, false, false, false, false, false] (by kernel_rfl) rfl rfl ⟨(blk_cell BK127.out 0).trans rfl, (blk_cell BK127.out 1).trans rfl, (blk_cell BK127.out 2).trans rfl, (blk_cell BK127.out 3).trans rfl⟩ (fun hHeld => ?_)
              generalize w119.drew = w120 at HO_119002 HO_119003 BK117 BK118 BK119 BK120 BK127 HB hHeld ⊢
              refine pureB 0 71 ?_
              refine pureB 1 72 ?_
              refine pureB 2 73 ?_
              refine takeB' 3 74 hHeld ?_
              refine one_ (i := 4) (N := none) #[true, true, true, true, true, false] rfl rfl (by kernel_rfl) (by decide) (fun K hK => ?_)
              have hs121 : w120.cell? ⟨gb119, 0, none⟩ = some (.int .i64 0) := (blk_cell BK119.out 0).trans rfl
              have hfs121 := blk_frozen BK119.out 0
              have hns121_0 := NB117_119.out
              have hns121_1 := NB118_119.out
              have hns121_3 := NB120_119.out
              have hns121_4 := NB127_119.out
              have hms121_0 := NB119_117.out
              have hms121_1 := NB119_118.out
              have hms121_3 := NB119_120.out
              have hms121_4 := NB119_127.out
              have hs122 : w120.cell? ⟨gb119, 1, none⟩ = some (.int .i64 0) := (blk_cell BK119.out 1).trans rfl
              have hfs122 := blk_frozen BK119.out 1
              have hns122_0 := NB117_119.out
              have hns122_1 := NB118_119.out
              have hns122_3 := NB120_119.out
              have hns122_4 := NB127_119.out
              have hms122_0 := NB119_117.out
              have hms122_1 := NB119_118.out
              have hms122_3 := NB119_120.out
              have hms122_4 := NB119_127.out
              have hs123 : w120.cell? ⟨gb119, 2, none⟩ = some (.slice none 0 0) := (blk_cell BK119.out 2).trans rfl
              have hfs123 := blk_frozen BK119.out 2
              have hns123_0 := NB117_119.out
              have hns123_1 := NB118_119.out
              have hns123_3 := NB120_119.out
              have hns123_4 := NB127_119.out
              have hms123_0 := NB119_117.out
              have hms123_1 := NB119_118.out
              have hms123_3 := NB119_120.out
              have hms123_4 := NB119_127.out
              have hs124 : w120.cell? ⟨gb119, 3, none⟩ = some (.slice none 0 0) := (blk_cell BK119.out 3).trans rfl
              have hfs124 := blk_frozen BK119.out 3
              have hns124_0 := NB117_119.out
              have hns124_1 := NB118_119.out
              have hns124_3 := NB120_119.out
              have hns124_4 := NB127_119.out
              have hms124_0 := NB119_117.out
              have hms124_1 := NB119_118.out
              have hms124_3 := NB119_120.out
              have hms124_4 := NB119_127.out
              refine skip_ (w1 := ?_) (by rfl) rfl ?_ ?_
              rotate_left
              · go_simp
                rfl
              refine hK.out _ _ ⟨((cell_far (p := ⟨gb119, _, none⟩) NB127_119.out _).trans (((cell_far (p := ⟨gb119, _, none⟩) NB127_119.out _).trans (((cell_far (p := ⟨gb119, _, none⟩) NB127_119.out _).trans (((cell_far (p := ⟨gb119, _, none⟩) NB127_119.out _).trans (hHeld.1)))))))), ((cell_far (p := ⟨gb119, _, none⟩) NB127_119.out _).trans (((cell_far (p := ⟨gb119, _, none⟩) NB127_119.out _).trans (((cell_far (p := ⟨gb119, _, none⟩) NB127_119.out _).trans (((cell_far (p := ⟨gb119, _, none⟩) NB127_119.out _).trans (hHeld.2.1)))))))), ((cell_far (p := ⟨gb119, _, none⟩) NB127_119.out _).trans (((cell_far (p := ⟨gb119, _, none⟩) NB127_119.out _).trans (((cell_far (p := ⟨gb119, _, none⟩) NB127_119.out _).trans (((cell_far (p := ⟨gb119, _, none⟩) NB127_119.out _).trans (hHeld.2.2.1)))))))), ((cell_far (p := ⟨gb119, _, none⟩) NB127_119.out _).trans (((cell_far (p := ⟨gb119, _, none⟩) NB127_119.out _).trans (((cell_far (p := ⟨gb119, _, none⟩) NB127_119.out _).trans (((cell_far (p := ⟨gb119, _, none⟩) NB127_119.out _).trans (hHeld.2.2.2))))))))⟩ (fun hHeld => ?_)
              clear hK K
              refine one_ (i := 5) (N := none) #[true, true, true, true, true, true] rfl rfl (by kernel_rfl) (by decide) (fun K hK => ?_)
              have hs125 : w120.cell? ⟨gb120, 0, none⟩ = some (.bool false) := (blk_cell BK120.out 0).trans rfl
              have hfs125 := blk_frozen BK120.out 0
              have hns125_0 := NB117_120.out
              have hns125_1 := NB118_120.out
              have hns125_2 := NB119_120.out
              have hns125_4 := NB127_120.out
              have hms125_0 := NB120_117.out
              have hms125_1 := NB120_118.out
              have hms125_2 := NB120_119.out
              have hms125_4 := NB120_127.out
              have hs126 : w120.cell? ⟨gb120, 1, none⟩ = some (.int .i64 0) := (blk_cell BK120.out 1).trans rfl
              have hfs126 := blk_frozen BK120.out 1
              have hns126_0 := NB117_120.out
              have hns126_1 := NB118_120.out
              have hns126_2 := NB119_120.out
              have hns126_4 := NB127_120.out
              have hms126_0 := NB120_117.out
              have hms126_1 := NB120_118.out
              have hms126_2 := NB120_119.out
              have hms126_4 := NB120_127.out
              have hs127 : w120.cell? ⟨gb120, 2, none⟩ = some (.int .i64 0) := (blk_cell BK120.out 2).trans rfl
              have hfs127 := blk_frozen BK120.out 2
              have hns127_0 := NB117_120.out
              have hns127_1 := NB118_120.out
              have hns127_2 := NB119_120.out
              have hns127_4 := NB127_120.out
              have hms127_0 := NB120_117.out
              have hms127_1 := NB120_118.out
              have hms127_2 := NB120_119.out
              have hms127_4 := NB120_127.out
              have hs128 : w120.cell? ⟨gb120, 3, none⟩ = some (.int .i64 0) := (blk_cell BK120.out 3).trans rfl
              have hfs128 := blk_frozen BK120.out 3
              have hns128_0 := NB117_120.out
              have hns128_1 := NB118_120.out
              have hns128_2 := NB119_120.out
              have hns128_4 := NB127_120.out
              have hms128_0 := NB120_117.out
              have hms128_1 := NB120_118.out
              have hms128_2 := NB120_119.out
              have hms128_4 := NB120_127.out
              refine skip_ (w1 := ?_) (by rfl) rfl ?_ ?_
              rotate_left
              · go_simp
                rfl
              refine hK.out _ _ ⟨((cell_far (p := ⟨gb120, _, none⟩) NB127_120.out _).trans (((cell_far (p := ⟨gb120, _, none⟩) NB127_120.out _).trans (((cell_far (p := ⟨gb120, _, none⟩) NB127_120.out _).trans (((cell_far (p := ⟨gb120, _, none⟩) NB127_120.out _).trans (hHeld.1)))))))), ((cell_far (p := ⟨gb120, _, none⟩) NB127_120.out _).trans (((cell_far (p := ⟨gb120, _, none⟩) NB127_120.out _).trans (((cell_far (p := ⟨gb120, _, none⟩) NB127_120.out _).trans (((cell_far (p := ⟨gb120, _, none⟩) NB127_120.out _).trans (hHeld.2.1)))))))), ((cell_far (p := ⟨gb120, _, none⟩) NB127_120.out _).trans (((cell_far (p := ⟨gb120, _, none⟩) NB127_120.out _).trans (((cell_far (p := ⟨gb120, _, none⟩) NB127_120.out _).trans (((cell_far (p := ⟨gb120, _, none⟩) NB127_120.out _).trans (hHeld.2.2.1)))))))), ((cell_far (p := ⟨gb120, _, none⟩) NB127_120.out _).trans (((cell_far (p := ⟨gb120, _, none⟩) NB127_120.out _).trans (((cell_far (p := ⟨gb120, _, none⟩) NB127_120.out _).trans (((cell_far (p := ⟨gb120, _, none⟩) NB127_120.out _).trans (hHeld.2.2.2))))))))⟩ (fun hHeld => ?_)
              clear hK K
              refine done_ (by kernel_rfl) ?_
              try go_wp2
              refine bodyPost_ret (results_cc rfl _ _ gb119 gb120 27 32 #[.int .i64 ji49, .int .i64 x10_51, .slice none 0 0, .slice none 0 0] #[.bool x128000_51, .int .i64 (wrap64 (a0_1 - x10_51)), .int .i64 x128002_51, .int .i64 0] (0, 0) (0, 0) _ _ rfl (by (with_reducible repeat (first | refine blk_drewN ?_ _ | refine blk_drew ?_ | refine blk_alloc ?_ _)); refine blk_far ?_ NB119_120.out _; (with_reducible repeat (first | refine blk_drewN ?_ _ | refine blk_drew ?_ | refine blk_alloc ?_ _)); refine blk_far ?_ NB119_120.out _; (with_reducible repeat (first | refine blk_drewN ?_ _ | refine blk_drew ?_ | refine blk_alloc ?_ _)); refine blk_far ?_ NB119_120.out _; (with_reducible repeat (first | refine blk_drewN ?_ _ | refine blk_drew ?_ | refine blk_alloc ?_ _)); refine blk_far ?_ NB119_120.out _; (with_reducible repeat (first | refine blk_drewN ?_ _ | refine blk_drew ?_ | refine blk_alloc ?_ _)); refine blk_put (cs := #[.int .i64 ji49, .int .i64 x10_51, .slice none 0 0, .slice none 0 0]) ?_ 3 _ rfl; (with_reducible repeat (first | refine blk_drewN ?_ _ | refine blk_drew ?_ | refine blk_alloc ?_ _)); refine blk_put (cs := #[.int .i64 ji49, .int .i64 x10_51, .slice none 0 0, .slice none 0 0]) ?_ 2 _ rfl; (with_reducible repeat (first | refine blk_drewN ?_ _ | refine blk_drew ?_ | refine blk_alloc ?_ _)); refine blk_put (cs := #[.int .i64 ji49, .int .i64 0, .slice none 0 0, .slice none 0 0]) ?_ 1 _ rfl; (with_reducible repeat (first | refine blk_drewN ?_ _ | refine blk_drew ?_ | refine blk_alloc ?_ _)); refine blk_put (cs := #[.int .i64 0, .int .i64 0, .slice none 0 0, .slice none 0 0]) ?_ 0 _ rfl; (with_reducible repeat (first | refine blk_drewN ?_ _ | refine blk_drew ?_ | refine blk_alloc ?_ _)); exact BK119.out) Try.underlying27 rfl (by kernel_rfl) rfl (by (with_reducible repeat (first | refine blk_drewN ?_ _ | refine blk_drew ?_ | refine blk_alloc ?_ _)); refine blk_put (cs := #[.bool x128000_51, .int .i64 (wrap64 (a0_1 - x10_51)), .int .i64 x128002_51, .int .i64 0]) ?_ 3 _ rfl; (with_reducible repeat (first | refine blk_drewN ?_ _ | refine blk_drew ?_ | refine blk_alloc ?_ _)); refine blk_put (cs := #[.bool x128000_51, .int .i64 (wrap64 (a0_1 - x10_51)), .int .i64 0, .int .i64 0]) ?_ 2 _ rfl; (with_reducible repeat (first | refine blk_drewN ?_ _ | refine blk_drew ?_ | refine blk_alloc ?_ _)); refine blk_put (cs := #[.bool x128000_51, .int .i64 0, .int .i64 0, .int .i64 0]) ?_ 1 _ rfl; (with_reducible repeat (first | refine blk_drewN ?_ _ | refine blk_drew ?_ | refine blk_alloc ?_ _)); refine blk_put (cs := #[.bool false, .int .i64 0, .int .i64 0, .int .i64 0]) ?_ 0 _ rfl; (with_reducible repeat (first | refine blk_drewN ?_ _ | refine blk_drew ?_ | refine blk_alloc ?_ _)); refine blk_far ?_ NB120_119.out _; (with_reducible repeat (first | refine blk_drewN ?_ _ | refine blk_drew ?_ | refine blk_alloc ?_ _)); refine blk_far ?_ NB120_119.out _; (with_reducible repeat (first | refine blk_drewN ?_ _ | refine blk_drew ?_ | refine blk_alloc ?_ _)); refine blk_far ?_ NB120_119.out _; (with_reducible repeat (first | refine blk_drewN ?_ _ | refine blk_drew ?_ | refine blk_alloc ?_ _)); refine blk_far ?_ NB120_119.out _; (with_reducible repeat (first | refine blk_drewN ?_ _ | refine blk_drew ?_ | refine blk_alloc ?_ _)); exact BK120.out) Try.underlying32 rfl (by kernel_rfl)) rfl ?_
              exact ⟨_, _, by first | (with_reducible rfl) | (simp only [← hji49]; with_reducible rfl) | (simp only [← hji49]; done) | rfl | (simp [errW_none, errW_some] <;> rfl) | (simp only [← hji49]; first | rfl | (simp [errW_none, errW_some] <;> rfl)) | (simp [*, errW_none, errW_some] <;> rfl), Kd.V_nil _ _ _ _ _, Kd.V_nil _ _ _ _ _, bl HB⟩

end Go.Proofs.Ytlnadabohaobnaa.Q
