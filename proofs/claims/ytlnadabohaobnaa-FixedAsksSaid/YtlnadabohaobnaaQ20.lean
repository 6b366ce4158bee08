-- Laid by wip/tools/hprint.py, a program of this repo, over the kit's print; not a text of print.sh.
import Derived.Test.YtlnadabohaobnaaQ0
import Derived.Test.YtlnadabohaobnaaQ16
import Derived.Test.YtlnadabohaobnaaQ17
import Derived.Test.YtlnadabohaobnaaQ18
import Derived.Test.YtlnadabohaobnaaQ19
namespace Go.Proofs.Ytlnadabohaobnaa.Q
open Go.RowKit Go.Proofs.Ytlnadabohaobnaa.Zip Go.Proofs.YtlnadabohaobnaaW.PrintWords Go.Proofs.YtlnadabohaobnaaW.PrintLast Go.Proofs.YtlnadabohaobnaaW.PrintMore
attribute [local go_sem] max2_int min2_int max_two min_two max_three min_three max_four min_four   -- for this text's walks alone
set_option linter.unusedVariables false
set_option linter.unusedSimpArgs false

/-! ### sandglassref11_Ask: function 11 -/
def sandglassref11_Ask.j0 : Nat → Int → Int → Bool → Int → Int → Int → Int → Int → Int → List Int → List (S53) → Option (Int × Int × List Int × (List (S53)) × Bool × Int × Int × Int)
  | 0, _, _, _, _, _, _, _, _, _, _, _ => none
  | k + 1, x2, x3, x26, x219000, x219001, x219002, x219003, x220000, x220001, x220002, x220003 => if x26 = true then (some (x220000, x220001, x220002, x220003, false, 0, 0, 0)) else ((sandglassref11_Total.f k x219000 x219001 x219002 x219003 x220000 x220001 x220002 x220003 (mx x2 x220000)).bind fun t225 => (if x219002 = 0 then (none) else (if (wrap64 (t225 + x3)) ≤ x219001 then (if (wrap64 (t225 + x3)) > 0 then (some (mx x2 x220000, wrap64 (t225 + x3), ([] : List Int), ([] : List (S53)), decide ((wrap64 (t225 + x3)) ≤ x219001), wrap64 (x219001 - (wrap64 (t225 + x3))), 0, wrap64 ((wrap64 (x219002 * (wrap64 ((wrap64 (Int.tdiv (mx x2 x220000) x219002)) + 1)))) - (mx x2 x220000)))) else (some (mx x2 x220000, wrap64 (t225 + x3), ([] : List Int), ([] : List (S53)), decide ((wrap64 (t225 + x3)) ≤ x219001), wrap64 (x219001 - (wrap64 (t225 + x3))), 0, 0))) else (if x3 > x219001 then (if t225 > 0 then (some (mx x2 x220000, t225, ([] : List Int), ([] : List (S53)), decide ((wrap64 (t225 + x3)) ≤ x219001), wrap64 (x219001 - t225), 2199023255552, wrap64 ((wrap64 (x219002 * (wrap64 ((wrap64 (Int.tdiv (mx x2 x220000) x219002)) + 1)))) - (mx x2 x220000)))) else (some (mx x2 x220000, t225, ([] : List Int), ([] : List (S53)), decide ((wrap64 (t225 + x3)) ≤ x219001), wrap64 (x219001 - t225), 2199023255552, 0))) else (if t225 > 0 then (some (mx x2 x220000, t225, ([] : List Int), ([] : List (S53)), decide ((wrap64 (t225 + x3)) ≤ x219001), wrap64 (x219001 - t225), wrap64 ((wrap64 (x219002 * (wrap64 ((wrap64 (Int.tdiv (mx x2 x220000) x219002)) + 1)))) - (mx x2 x220000)), wrap64 ((wrap64 (x219002 * (wrap64 ((wrap64 (Int.tdiv (mx x2 x220000) x219002)) + 1)))) - (mx x2 x220000)))) else (some (mx x2 x220000, t225, ([] : List Int), ([] : List (S53)), decide ((wrap64 (t225 + x3)) ≤ x219001), wrap64 (x219001 - t225), wrap64 ((wrap64 (x219002 * (wrap64 ((wrap64 (Int.tdiv (mx x2 x220000) x219002)) + 1)))) - (mx x2 x220000)), 0)))))))
def sandglassref11_Ask.f (k : Nat) (a0_0 : Int) (a0_1 : Int) (a0_2 : Int) (a0_3 : Int) (a1_0 : Int) (a1_1 : Int) (l1_2 : List Int) (l1_3 : List (S53)) (a2 : Int) (a3 : Int) : Option (Int × Int × List Int × (List (S53)) × Bool × Int × Int × Int) := (sandglassref11_May.f k a0_0 a0_1 a0_2 a0_3 a1_0 a1_1 l1_2 l1_3).bind fun t222 => (if t222 = true then ((sandglassref10_Time.f a2).bind fun t223 => (if t223 = true then ((sandglassref09_Weighs.f a3).bind fun t224 => (sandglassref11_Ask.j0 k a2 a3 (!t224) a0_0 a0_1 a0_2 a0_3 a1_0 a1_1 l1_2 l1_3)) else (sandglassref11_Ask.j0 k a2 a3 true a0_0 a0_1 a0_2 a0_3 a1_0 a1_1 l1_2 l1_3))) else (sandglassref11_Ask.j0 k a2 a3 true a0_0 a0_1 a0_2 a0_3 a1_0 a1_1 l1_2 l1_3))
theorem sandglassref11_Ask.mono_l : ∀ k, (∀ y0 y1 y2 y3 y4 y5 y6 y7 y8 y9 y10, LeO (sandglassref11_Ask.j0 k y0 y1 y2 y3 y4 y5 y6 y7 y8 y9 y10) (sandglassref11_Ask.j0 (k + 1) y0 y1 y2 y3 y4 y5 y6 y7 y8 y9 y10))
  | 0 => fun _ _ _ _ _ _ _ _ _ _ _ r h => by simp [sandglassref11_Ask.j0] at h
  | k + 1 => by
    have ih0 := sandglassref11_Ask.mono_l k
    · intro y0 y1 y2 y3 y4 y5 y6 y7 y8 y9 y10
      unfold sandglassref11_Ask.j0
      repeat' first
      | (with_reducible exact ih0 _ _ _ _ _ _ _ _ _ _ _)
      | (with_reducible exact sandglassref11_May.mono _ _ _ _ _ _ _ _ _)
      | (with_reducible exact sandglassref11_Total.mono _ _ _ _ _ _ _ _ _ _)
      | (with_reducible exact LeO.refl _)
      | (with_reducible exact LeO.none _)
      | (with_reducible refine LeO.ite ?_ ?_)
      | (with_reducible refine LeO.bind ?_ (fun _ => ?_))
      | exact ih0 _ _ _ _ _ _ _ _ _ _ _
      | exact sandglassref11_May.mono _ _ _ _ _ _ _ _ _
      | exact sandglassref11_Total.mono _ _ _ _ _ _ _ _ _ _
      | exact LeO.none _
      | refine LeO.ite ?_ ?_
      | refine LeO.bind ?_ (fun _ => ?_)
theorem sandglassref11_Ask.mono : ∀ a0 a1 a2 a3 a4 a5 a6 a7 a8 a9 k, LeO (sandglassref11_Ask.f k a0 a1 a2 a3 a4 a5 a6 a7 a8 a9) (sandglassref11_Ask.f (k + 1) a0 a1 a2 a3 a4 a5 a6 a7 a8 a9) := by
  intro a0 a1 a2 a3 a4 a5 a6 a7 a8 a9 k
  have ih0 := sandglassref11_Ask.mono_l k
  unfold sandglassref11_Ask.f
  repeat' first
      | (with_reducible exact ih0 _ _ _ _ _ _ _ _ _ _ _)
      | (with_reducible exact sandglassref11_May.mono _ _ _ _ _ _ _ _ _)
      | (with_reducible exact sandglassref11_Total.mono _ _ _ _ _ _ _ _ _ _)
      | (with_reducible exact LeO.refl _)
      | (with_reducible exact LeO.none _)
      | (with_reducible refine LeO.ite ?_ ?_)
      | (with_reducible refine LeO.bind ?_ (fun _ => ?_))
      | exact ih0 _ _ _ _ _ _ _ _ _ _ _
      | exact sandglassref11_May.mono _ _ _ _ _ _ _ _ _
      | exact sandglassref11_Total.mono _ _ _ _ _ _ _ _ _ _
      | exact LeO.none _
      | refine LeO.ite ?_ ?_
      | refine LeO.bind ?_ (fun _ => ?_)
def sandglassref11_Ask.T5 : Bool × List (List Nat × List Nat) := (true, [([], []), ([0], [0]), ([], []), ([], []), ([3], [3]), ([2, 4], [2, 4]), ([5], [5]), ([1, 6], [1, 6]), ([], []), ([7, 8], [7, 8]), ([9, 0, 1, 2, 3, 4, 5, 6, 7, 8, 9], [9])])
def sandglassref11_Ask.B5 : List Nat := [0, 1, 0, 0, 8, 28, 60, 127, 0, 511, 1023]
theorem sandglassref11_Ask.tab5 : rtab .any (opsOf Try.f11 5) = sandglassref11_Ask.T5 := by kernel_rfl
theorem sandglassref11_Ask.bits5 : waitsOk sandglassref11_Ask.T5.2 sandglassref11_Ask.B5 = true := by kernel_rfl
set_option maxHeartbeats 8000000 in
set_option maxRecDepth 100000 in
theorem sandglassref11_Ask.calls (k : Nat) (a0_0 : Int) (a0_1 : Int) (a0_2 : Int) (a0_3 : Int) (a1_0 : Int) (a1_1 : Int) (P1_2_ : Nat → Prop) (A1_2 : Option Addr) (c1_2 : Nat) (l1_2 : List Int) (P1_3_ : Nat → Prop) (A1_3 : Option Addr) (c1_3 : Nat) (l1_3 : List (S53)) (a2 : Int) (a3 : Int) (r1 : Int) (r2 : Int) (r3 : List Int) (r4 : List (S53)) (r5 : Bool) (r6 : Int) (r7 : Int) (r8 : Int) (w : World) (hs1_2 : Kd.V (Kd.int .i64) 3 w w.heap.size (fun k_ => P1_2_ k_) (.slice A1_2 l1_2.length c1_2) l1_2) (hs1_3 : Kd.V k53 53 w w.heap.size (fun k_ => P1_3_ k_) (.slice A1_3 l1_3.length c1_3) l1_3) (h : sandglassref11_Ask.f k a0_0 a0_1 a0_2 a0_3 a1_0 a1_1 l1_2 l1_3 a2 a3 = some (r1, r2, r3, r4, r5, r6, r7, r8)) :
    Calls Try.prog 11 #[.agg #[.int .i64 a0_0, .int .i64 a0_1, .int .i64 a0_2, .int .i64 a0_3], .agg #[.int .i64 a1_0, .int .i64 a1_1, .slice A1_2 l1_2.length c1_2, .slice A1_3 l1_3.length c1_3], .int .i64 a2, .int .i64 a3] w fun e w' => ∃ v2_ v3_ : Value, e = .returned (.tuple #[.agg #[.int .i64 r1, .int .i64 r2, v2_, v3_], .agg #[.bool r5, .int .i64 r6, .int .i64 r7, .int .i64 r8]]) ∧ Kd.V (Kd.int .i64) 3 w' w.heap.size (fun k_ => ((P1_2_ k_ ∨ P1_3_ k_) ∨ w.heap.size ≤ k_)) v2_ r3 ∧ Kd.V k53 53 w' w.heap.size (fun k_ => ((P1_2_ k_ ∨ P1_3_ k_) ∨ w.heap.size ≤ k_)) v3_ r4 ∧ Below w.heap.size w w' := by
  have hu23 := Try.underlying23
  have hu27 := Try.underlying27
  have hu32 := Try.underlying32
  have HO1_2 := Aside0.mk (show Kd.V (Kd.int .i64) 3 w w.heap.size (fun k_ => ((P1_2_ k_ ∨ P1_3_ k_) ∨ w.heap.size ≤ k_)) (.slice A1_2 l1_2.length c1_2) l1_2 from Kd.V_mono hs1_2 (fun k_ hk => .inl (.inl hk)))
  have HO1_3 := Aside0.mk (show Kd.V k53 53 w w.heap.size (fun k_ => ((P1_2_ k_ ∨ P1_3_ k_) ∨ w.heap.size ≤ k_)) (.slice A1_3 l1_3.length c1_3) l1_3 from Kd.V_mono hs1_3 (fun k_ hk => .inl (.inr hk)))
  have HB := Aside0.mk (Below.refl w.heap.size w)
  have H : ((sandglassref11_May.f k a0_0 a0_1 a0_2 a0_3 a1_0 a1_1 l1_2 l1_3).bind fun t222 => (if t222 = true then ((sandglassref10_Time.f a2).bind fun t223 => (if t223 = true then ((sandglassref09_Weighs.f a3).bind fun t224 => (sandglassref11_Ask.j0 k a2 a3 (!t224) a0_0 a0_1 a0_2 a0_3 a1_0 a1_1 l1_2 l1_3)) else (sandglassref11_Ask.j0 k a2 a3 true a0_0 a0_1 a0_2 a0_3 a1_0 a1_1 l1_2 l1_3))) else (sandglassref11_Ask.j0 k a2 a3 true a0_0 a0_1 a0_2 a0_3 a1_0 a1_1 l1_2 l1_3))) = some (r1, r2, r3, r4, r5, r6, r7, r8) := h
  clear h
  have HC5 := Aside0.mk H
  clear H
  go_enter Try.func11, Try.ntmps11
  go_upto_region 1 with (first | ((with_reducible refine gate_dst (N := 4) rfl ?_); refine box_event ?hg (N := 4) ?hd (cs := #[.int .i64 a0_0, .int .i64 a0_1, .int .i64 a0_2, .int .i64 a0_3]) (t := 23) ?hr ?_; (case hd => rfl); (case hg => rfl); (case hr => first | (go_simp; done) | (go_simp; rfl)); intro gb218 hg w6 hbox hb; have BK218 := Aside0.mk (hbox); have GW218 := Aside0.mk ((by rw [hg]; exact (below_size (bl HB)) : w.heap.size ≤ gb218)); have GE218 := Aside0.mk ((by rw [hg]; exact (below_size (bl HB)) : w.heap.size ≤ gb218)); replace HO1_2 := ve HO1_2 hg hb; replace HO1_3 := ve HO1_3 hg hb; replace HB := Aside0.mk (below_step (bl HB) hb); clear hb hbox hg) | ((with_reducible refine gate_dst (N := 5) rfl ?_); refine box_event ?hg (N := 5) ?hd (cs := #[.int .i64 a1_0, .int .i64 a1_1, .slice A1_2 l1_2.length c1_2, .slice A1_3 l1_3.length c1_3]) (t := 27) ?hr ?_; (case hd => rfl); (case hg => rfl); (case hr => first | (go_simp; done) | (go_simp; rfl)); intro gb219 hg w7 hbox hb; have BK219 := Aside0.mk (hbox); have GW219 := Aside0.mk ((by rw [hg]; exact (below_size (bl HB)) : w.heap.size ≤ gb219)); have GE219 := Aside0.mk ((by rw [hg]; exact (below_size (bl HB)) : w.heap.size ≤ gb219)); have NB218_219 := nb BK218 hg; have NB219_218 := bn BK218 hg; replace HO1_2 := ve HO1_2 hg hb; replace HO1_3 := ve HO1_3 hg hb; replace BK218 := Aside0.mk (blk_below (bo BK218) hb); replace HB := Aside0.mk (below_step (bl HB) hb); clear hb hbox hg) | ((with_reducible refine gate_dst (N := 8) rfl ?_); refine box_event ?hg (N := 8) ?hd (cs := #[.int .i64 0, .int .i64 0, .slice none 0 0, .slice none 0 0]) (t := 27) ?hr ?_; (case hd => rfl); (case hg => rfl); (case hr => first | (go_simp; done) | (go_simp; rfl)); intro gb220 hg w8 hbox hb; have BK220 := Aside0.mk (hbox); have GW220 := Aside0.mk ((by rw [hg]; exact (below_size (bl HB)) : w.heap.size ≤ gb220)); have GE220 := Aside0.mk ((by rw [hg]; exact (below_size (bl HB)) : w.heap.size ≤ gb220)); have NB218_220 := nb BK218 hg; have NB220_218 := bn BK218 hg; have NB219_220 := nb BK219 hg; have NB220_219 := bn BK219 hg; replace HO1_2 := ve HO1_2 hg hb; replace HO1_3 := ve HO1_3 hg hb; replace BK218 := Aside0.mk (blk_below (bo BK218) hb); replace BK219 := Aside0.mk (blk_below (bo BK219) hb); replace HB := Aside0.mk (below_step (bl HB) hb); clear hb hbox hg) | ((with_reducible refine gate_dst (N := 9) rfl ?_); refine box_event ?hg (N := 9) ?hd (cs := #[.bool false, .int .i64 0, .int .i64 0, .int .i64 0]) (t := 32) ?hr ?_; (case hd => rfl); (case hg => rfl); (case hr => first | (go_simp; done) | (go_simp; rfl)); intro gb221 hg w9 hbox hb; have BK221 := Aside0.mk (hbox); have GW221 := Aside0.mk ((by rw [hg]; exact (below_size (bl HB)) : w.heap.size ≤ gb221)); have GE221 := Aside0.mk ((by rw [hg]; exact (below_size (bl HB)) : w.heap.size ≤ gb221)); have NB218_221 := nb BK218 hg; have NB221_218 := bn BK218 hg; have NB219_221 := nb BK219 hg; have NB221_219 := bn BK219 hg; have NB220_221 := nb BK220 hg; have NB221_220 := bn BK220 hg; replace HO1_2 := ve HO1_2 hg hb; replace HO1_3 := ve HO1_3 hg hb; replace BK218 := Aside0.mk (blk_below (bo BK218) hb); replace BK219 := Aside0.mk (blk_below (bo BK219) hb); replace BK220 := Aside0.mk (blk_below (bo BK220) hb); replace HB := Aside0.mk (below_step (bl HB) hb); clear hb hbox hg))
  (try simp only [Act.put, List.setIfInBounds_toArray, List.set_cons_zero, List.set_cons_succ])
  go_cut [26] (fun v26 wc => ∃ (kq : Nat) (x26_4 : Bool), v26 = .bool x26_4 ∧ Aside0 (sandglassref11_Ask.j0 kq a2 a3 x26_4 a0_0 a0_1 a0_2 a0_3 a1_0 a1_1 l1_2 l1_3 = some (r1, r2, r3, r4, r5, r6, r7, r8)) ∧ Aside0 (kq ≤ k) ∧ Aside0 (Kd.V (Kd.int .i64) 3 wc w.heap.size (fun k_ => ((P1_2_ k_ ∨ P1_3_ k_) ∨ w.heap.size ≤ k_) ∧ k_ ≠ gb218 ∧ k_ ≠ gb219 ∧ k_ ≠ gb220 ∧ k_ ≠ gb221) (.slice A1_2 l1_2.length c1_2) l1_2) ∧ Aside0 (Kd.V k53 53 wc w.heap.size (fun k_ => ((P1_2_ k_ ∨ P1_3_ k_) ∨ w.heap.size ≤ k_) ∧ k_ ≠ gb218 ∧ k_ ≠ gb219 ∧ k_ ≠ gb220 ∧ k_ ≠ gb221) (.slice A1_3 l1_3.length c1_3) l1_3) ∧ Aside0 (wc.heap[gb218]? = some (.cells #[.int .i64 a0_0, .int .i64 a0_1, .int .i64 a0_2, .int .i64 a0_3] 23 (0, 0))) ∧ Aside0 (wc.heap[gb219]? = some (.cells #[.int .i64 a1_0, .int .i64 a1_1, (.slice A1_2 l1_2.length c1_2), (.slice A1_3 l1_3.length c1_3)] 27 (0, 0))) ∧ Aside0 (wc.heap[gb220]? = some (.cells #[.int .i64 0, .int .i64 0, (.slice none 0 0), (.slice none 0 0)] 27 (0, 0))) ∧ Aside0 (wc.heap[gb221]? = some (.cells #[.bool false, .int .i64 0, .int .i64 0, .int .i64 0] 32 (0, 0))) ∧ Aside0 (Below w.heap.size w wc))
  case first =>
    have H := HC5.out
    clear HC5
    replace H := Option.bind_eq_some_iff.mp H
    obtain ⟨t222, A100, H⟩ := H
    have A10 := Aside0.mk A100
    clear A100
    by_cases c11 : t222 = true
    · subst c11
      rw [if_pos rfl] at H
      replace H := Option.bind_eq_some_iff.mp H
      obtain ⟨t223, A120, H⟩ := H
      have A12 := Aside0.mk A120
      clear A120
      by_cases c13 : t223 = true
      · subst c13
        rw [if_pos rfl] at H
        replace H := Option.bind_eq_some_iff.mp H
        obtain ⟨t224, A140, H⟩ := H
        have A14 := Aside0.mk A140
        clear A140
        have H' := Aside0.mk H
        clear H
        have hnb15 := NB218_219.out
        have hnc15 := NB219_218.out
        have hnb16 := NB218_220.out
        have hnc16 := NB220_218.out
        have hnb17 := NB218_221.out
        have hnc17 := NB221_218.out
        obtain ⟨hcz18_0, hcz18_1, hcz18_2, hcz18_3⟩ := ce4 BK218
        obtain ⟨hfz18_0, hfz18_1, hfz18_2, hfz18_3⟩ := fr4 BK218
        have hnb19 := NB219_220.out
        have hnc19 := NB220_219.out
        have hnb20 := NB219_221.out
        have hnc20 := NB221_219.out
        obtain ⟨hcz21_0, hcz21_1, hcz21_2, hcz21_3⟩ := ce4 BK219
        obtain ⟨hfz21_0, hfz21_1, hfz21_2, hfz21_3⟩ := fr4 BK219
        go_wp2_with (first | ((with_reducible refine gate_callee (f := 14) rfl ?_); refine goesL_ (some 15) rfl rfl Try.func14 (by kernel_rfl) rfl #[.agg #[.int .i64 a0_0, .int .i64 a0_1, .int .i64 a0_2, .int .i64 a0_3], .agg #[.int .i64 a1_0, .int .i64 a1_1, .slice A1_2 l1_2.length c1_2, .slice A1_3 l1_3.length c1_3]] rfl (by (try simp only [List.map_toArray, List.map_cons, List.map_nil]); first | done | rfl | (simp only [List.length_drop, List.length_take]; rfl)) ?_; (with_reducible refine (sandglassref11_May.calls k a0_0 a0_1 a0_2 a0_3 a1_0 a1_1 _ _ l1_2 _ _ l1_3 true _ ?side1 ?side2 ?side3 ?side4 A10.out).mono ?_); (case side1 => repeat (first | exact (Kd.V_reads' HO1_2.out).2.2 | (with_reducible refine Kd.C_alloc ?_ _) | (with_reducible refine Kd.C_drewN ?_ _) | (with_reducible refine Kd.C_drew ?_))); (case side2 => exact (Kd.V_reads' HO1_2.out).2.1); (case side3 => repeat (first | exact (Kd.V_reads' HO1_3.out).2.2 | (with_reducible refine Kd.C_alloc ?_ _) | (with_reducible refine Kd.C_drewN ?_ _) | (with_reducible refine Kd.C_drew ?_))); (case side4 => exact (Kd.V_reads' HO1_3.out).2.1); rintro e w22 ⟨rfl, hb⟩; refine ⟨_, rfl, ?_⟩; replace HO1_2 := vb HO1_2 hb; replace HO1_3 := vb HO1_3 hb; replace BK218 := Aside0.mk (blk_below (bo BK218) hb); replace BK219 := Aside0.mk (blk_below (bo BK219) hb); replace BK220 := Aside0.mk (blk_below (bo BK220) hb); replace BK221 := Aside0.mk (blk_below (bo BK221) hb); replace HB := Aside0.mk (below_step (bl HB) hb); (try clear hb); (try clear hb2); (try clear hk); (try clear hi)) | (go_at_call 24; (with_reducible refine (sandglassref10_Time.calls a2 true _ A12.out).mono ?_); rintro e w' ⟨rfl, ⟨nd, rfl⟩⟩) | (go_at_call 19; (with_reducible refine (sandglassref09_Weighs.calls a3 t224 _ A14.out).mono ?_); rintro e w' ⟨rfl, ⟨nd, rfl⟩⟩))
        go_meet
        case rel => exact ⟨_, (!t224), (by first | (with_reducible rfl) | rfl | (simp; done) | (simp [*]; done)), H', ⟨by first | omega | exact Nat.le_refl _⟩, ⟨by (with_reducible repeat (first | apply Kd.V_alloc | apply Kd.V_drewN | apply Kd.V_drew)); exact Kd.V_mono HO1_2.out (fun _ hk => ⟨hk.1.1.1.1, ⟨hk.1.1.1.2, ⟨hk.1.1.2, ⟨hk.1.2, hk.2⟩⟩⟩⟩)⟩, ⟨by (with_reducible repeat (first | apply Kd.V_alloc | apply Kd.V_drewN | apply Kd.V_drew)); exact Kd.V_mono HO1_3.out (fun _ hk => ⟨hk.1.1.1.1, ⟨hk.1.1.1.2, ⟨hk.1.1.2, ⟨hk.1.2, hk.2⟩⟩⟩⟩)⟩, ⟨bo BK218⟩, ⟨bo BK219⟩, ⟨bo BK220⟩, ⟨bo BK221⟩, ⟨bl HB⟩⟩
      · replace c13 := Bool.eq_false_iff.mpr c13
        subst c13
        rw [if_neg (show ¬ (false = true) by decide)] at H
        have H' := Aside0.mk H
        clear H
        have hnb23 := NB218_219.out
        have hnc23 := NB219_218.out
        have hnb24 := NB218_220.out
        have hnc24 := NB220_218.out
        have hnb25 := NB218_221.out
        have hnc25 := NB221_218.out
        obtain ⟨hcz26_0, hcz26_1, hcz26_2, hcz26_3⟩ := ce4 BK218
        obtain ⟨hfz26_0, hfz26_1, hfz26_2, hfz26_3⟩ := fr4 BK218
        have hnb27 := NB219_220.out
        have hnc27 := NB220_219.out
        have hnb28 := NB219_221.out
        have hnc28 := NB221_219.out
        obtain ⟨hcz29_0, hcz29_1, hcz29_2, hcz29_3⟩ := ce4 BK219
        obtain ⟨hfz29_0, hfz29_1, hfz29_2, hfz29_3⟩ := fr4 BK219
        go_wp2_with (first | ((with_reducible refine gate_callee (f := 14) rfl ?_); refine goesL_ (some 15) rfl rfl Try.func14 (by kernel_rfl) rfl #[.agg #[.int .i64 a0_0, .int .i64 a0_1, .int .i64 a0_2, .int .i64 a0_3], .agg #[.int .i64 a1_0, .int .i64 a1_1, .slice A1_2 l1_2.length c1_2, .slice A1_3 l1_3.length c1_3]] rfl (by (try simp only [List.map_toArray, List.map_cons, List.map_nil]); first | done | rfl | (simp only [List.length_drop, List.length_take]; rfl)) ?_; (with_reducible refine (sandglassref11_May.calls k a0_0 a0_1 a0_2 a0_3 a1_0 a1_1 _ _ l1_2 _ _ l1_3 true _ ?side1 ?side2 ?side3 ?side4 A10.out).mono ?_); (case side1 => repeat (first | exact (Kd.V_reads' HO1_2.out).2.2 | (with_reducible refine Kd.C_alloc ?_ _) | (with_reducible refine Kd.C_drewN ?_ _) | (with_reducible refine Kd.C_drew ?_))); (case side2 => exact (Kd.V_reads' HO1_2.out).2.1); (case side3 => repeat (first | exact (Kd.V_reads' HO1_3.out).2.2 | (with_reducible refine Kd.C_alloc ?_ _) | (with_reducible refine Kd.C_drewN ?_ _) | (with_reducible refine Kd.C_drew ?_))); (case side4 => exact (Kd.V_reads' HO1_3.out).2.1); rintro e w30 ⟨rfl, hb⟩; refine ⟨_, rfl, ?_⟩; replace HO1_2 := vb HO1_2 hb; replace HO1_3 := vb HO1_3 hb; replace BK218 := Aside0.mk (blk_below (bo BK218) hb); replace BK219 := Aside0.mk (blk_below (bo BK219) hb); replace BK220 := Aside0.mk (blk_below (bo BK220) hb); replace BK221 := Aside0.mk (blk_below (bo BK221) hb); replace HB := Aside0.mk (below_step (bl HB) hb); (try clear hb); (try clear hb2); (try clear hk); (try clear hi)) | (go_at_call 24; (with_reducible refine (sandglassref10_Time.calls a2 false _ A12.out).mono ?_); rintro e w' ⟨rfl, ⟨nd, rfl⟩⟩))
        go_meet
        case rel => exact ⟨_, (true), (by first | (with_reducible rfl) | rfl | (simp; done) | (simp [*]; done)), H', ⟨by first | omega | exact Nat.le_refl _⟩, ⟨by (with_reducible repeat (first | apply Kd.V_alloc | apply Kd.V_drewN | apply Kd.V_drew)); exact Kd.V_mono HO1_2.out (fun _ hk => ⟨hk.1.1.1.1, ⟨hk.1.1.1.2, ⟨hk.1.1.2, ⟨hk.1.2, hk.2⟩⟩⟩⟩)⟩, ⟨by (with_reducible repeat (first | apply Kd.V_alloc | apply Kd.V_drewN | apply Kd.V_drew)); exact Kd.V_mono HO1_3.out (fun _ hk => ⟨hk.1.1.1.1, ⟨hk.1.1.1.2, ⟨hk.1.1.2, ⟨hk.1.2, hk.2⟩⟩⟩⟩)⟩, ⟨bo BK218⟩, ⟨bo BK219⟩, ⟨bo BK220⟩, ⟨bo BK221⟩, ⟨bl HB⟩⟩
    · replace c11 := Bool.eq_false_iff.mpr c11
      subst c11
      rw [if_neg (show ¬ (false = true) by decide)] at H
      have H' := Aside0.mk H
      clear H
      have hnb31 := NB218_219.out
      have hnc31 := NB219_218.out
      have hnb32 := NB218_220.out
      have hnc32 := NB220_218.out
      have hnb33 := NB218_221.out
      have hnc33 := NB221_218.out
      obtain ⟨hcz34_0, hcz34_1, hcz34_2, hcz34_3⟩ := ce4 BK218
      obtain ⟨hfz34_0, hfz34_1, hfz34_2, hfz34_3⟩ := fr4 BK218
      have hnb35 := NB219_220.out
      have hnc35 := NB220_219.out
      have hnb36 := NB219_221.out
      have hnc36 := NB221_219.out
      obtain ⟨hcz37_0, hcz37_1, hcz37_2, hcz37_3⟩ := ce4 BK219
      obtain ⟨hfz37_0, hfz37_1, hfz37_2, hfz37_3⟩ := fr4 BK219
      go_wp2_with (first | ((with_reducible refine gate_callee (f := 14) rfl ?_); refine goesL_ (some 15) rfl rfl Try.func14 (by kernel_rfl) rfl #[.agg #[.int .i64 a0_0, .int .i64 a0_1, .int .i64 a0_2, .int .i64 a0_3], .agg #[.int .i64 a1_0, .int .i64 a1_1, .slice A1_2 l1_2.length c1_2, .slice A1_3 l1_3.length c1_3]] rfl (by (try simp only [List.map_toArray, List.map_cons, List.map_nil]); first | done | rfl | (simp only [List.length_drop, List.length_take]; rfl)) ?_; (with_reducible refine (sandglassref11_May.calls k a0_0 a0_1 a0_2 a0_3 a1_0 a1_1 _ _ l1_2 _ _ l1_3 false _ ?side1 ?side2 ?side3 ?side4 A10.out).mono ?_); (case side1 => repeat (first | exact (Kd.V_reads' HO1_2.out).2.2 | (with_reducible refine Kd.C_alloc ?_ _) | (with_reducible refine Kd.C_drewN ?_ _) | (with_reducible refine Kd.C_drew ?_))); (case side2 => exact (Kd.V_reads' HO1_2.out).2.1); (case side3 => repeat (first | exact (Kd.V_reads' HO1_3.out).2.2 | (with_reducible refine Kd.C_alloc ?_ _) | (with_reducible refine Kd.C_drewN ?_ _) | (with_reducible refine Kd.C_drew ?_))); (case side4 => exact (Kd.V_reads' HO1_3.out).2.1); rintro e w38 ⟨rfl, hb⟩; refine ⟨_, rfl, ?_⟩; replace HO1_2 := vb HO1_2 hb; replace HO1_3 := vb HO1_3 hb; replace BK218 := Aside0.mk (blk_below (bo BK218) hb); replace BK219 := Aside0.mk (blk_below (bo BK219) hb); replace BK220 := Aside0.mk (blk_below (bo BK220) hb); replace BK221 := Aside0.mk (blk_below (bo BK221) hb); replace HB := Aside0.mk (below_step (bl HB) hb); (try clear hb); (try clear hb2); (try clear hk); (try clear hi)))
      go_meet
      case rel => exact ⟨_, (true), (by first | (with_reducible rfl) | rfl | (simp; done) | (simp [*]; done)), H', ⟨by first | omega | exact Nat.le_refl _⟩, ⟨by (with_reducible repeat (first | apply Kd.V_alloc | apply Kd.V_drewN | apply Kd.V_drew)); exact Kd.V_mono HO1_2.out (fun _ hk => ⟨hk.1.1.1.1, ⟨hk.1.1.1.2, ⟨hk.1.1.2, ⟨hk.1.2, hk.2⟩⟩⟩⟩)⟩, ⟨by (with_reducible repeat (first | apply Kd.V_alloc | apply Kd.V_drewN | apply Kd.V_drew)); exact Kd.V_mono HO1_3.out (fun _ hk => ⟨hk.1.1.1.1, ⟨hk.1.1.1.2, ⟨hk.1.1.2, ⟨hk.1.2, hk.2⟩⟩⟩⟩)⟩, ⟨bo BK218⟩, ⟨bo BK219⟩, ⟨bo BK220⟩, ⟨bo BK221⟩, ⟨bl HB⟩⟩
  case rest =>
    clear HC5
    try clear c1
    try clear c2
    try clear p2
    try clear c3
    try clear c11
    try clear c13
    try clear c14
    try clear c15
    try clear c16
    try clear c17
    try clear c19
    try clear c20
    try clear c23
    try clear c24
    try clear c25
    try clear c27
    try clear c28
    try clear c31
    try clear c32
    try clear c33
    try clear c35
    try clear c36
    try clear hcz18_0
    try clear hcz18_1
    try clear hcz18_2
    try clear hcz18_3
    try clear hcz21_0
    try clear hcz21_1
    try clear hcz21_2
    try clear hcz21_3
    try clear hcz26_0
    try clear hcz26_1
    try clear hcz26_2
    try clear hcz26_3
    try clear hcz29_0
    try clear hcz29_1
    try clear hcz29_2
    try clear hcz29_3
    try clear hcz34_0
    try clear hcz34_1
    try clear hcz34_2
    try clear hcz34_3
    try clear hcz37_0
    try clear hcz37_1
    try clear hcz37_2
    try clear hcz37_3
    try clear hfz18_0
    try clear hfz18_1
    try clear hfz18_2
    try clear hfz18_3
    try clear hfz21_0
    try clear hfz21_1
    try clear hfz21_2
    try clear hfz21_3
    try clear hfz26_0
    try clear hfz26_1
    try clear hfz26_2
    try clear hfz26_3
    try clear hfz29_0
    try clear hfz29_1
    try clear hfz29_2
    try clear hfz29_3
    try clear hfz34_0
    try clear hfz34_1
    try clear hfz34_2
    try clear hfz34_3
    try clear hfz37_0
    try clear hfz37_1
    try clear hfz37_2
    try clear hfz37_3
    obtain ⟨kq, x26_4, rfl, HA, HJ4, HO_220002, HO_220003, BK218, BK219, BK220, BK221, HB⟩ := hcut
    cases kq with
    | zero => exact absurd HA.out (by simp [sandglassref11_Ask.j0])
    | succ kj4 =>
      have H := HA.out
      clear HA
      simp only [sandglassref11_Ask.j0] at H
      by_cases c39 : x26_4 = true
      · subst c39
        rw [if_pos rfl] at H
        simp only [Option.some.injEq, Prod.mk.injEq] at H
        obtain ⟨rfl, rfl, rfl, rfl, rfl, rfl, rfl, rfl⟩ := H
        have hnb40 := NB219_218.out
        have hnc40 := NB218_219.out
        have hnb41 := NB219_220.out
        have hnc41 := NB220_219.out
        have hnb42 := NB219_221.out
        have hnc42 := NB221_219.out
        obtain ⟨hcz43_0, hcz43_1, hcz43_2, hcz43_3⟩ := ce4 BK219
        obtain ⟨hfz43_0, hfz43_1, hfz43_2, hfz43_3⟩ := fr4 BK219
        have hnb44 := NB220_218.out
        have hnc44 := NB218_220.out
        have hnb45 := NB220_221.out
        have hnc45 := NB221_220.out
        obtain ⟨hcz46_0, hcz46_1, hcz46_2, hcz46_3⟩ := ce4 BK220
        obtain ⟨hfz46_0, hfz46_1, hfz46_2, hfz46_3⟩ := fr4 BK220
        have hnb47 := NB221_218.out
        have hnc47 := NB218_221.out
        obtain ⟨hcz48_0, hcz48_1, hcz48_2, hcz48_3⟩ := ce4 BK221
        obtain ⟨hfz48_0, hfz48_1, hfz48_2, hfz48_3⟩ := fr4 BK221
        go_wp2
        refine bodyPost_ret (results_cc rfl _ _ gb220 gb221 27 32 #[.int .i64 a1_0, .int .i64 a1_1, .slice A1_2 l1_2.length c1_2, .slice A1_3 l1_3.length c1_3] #[.bool false, .int .i64 0, .int .i64 0, .int .i64 0] (0, 0) (0, 0) _ _ rfl (by (with_reducible repeat (first | refine blk_drewN ?_ _ | refine blk_drew ?_ | refine blk_alloc ?_ _)); refine blk_far ?_ NB220_221.out _; (with_reducible repeat (first | refine blk_drewN ?_ _ | refine blk_drew ?_ | refine blk_alloc ?_ _)); refine blk_far ?_ NB220_221.out _; (with_reducible repeat (first | refine blk_drewN ?_ _ | refine blk_drew ?_ | refine blk_alloc ?_ _)); refine blk_far ?_ NB220_221.out _; (with_reducible repeat (first | refine blk_drewN ?_ _ | refine blk_drew ?_ | refine blk_alloc ?_ _)); refine blk_far ?_ NB220_221.out _; (with_reducible repeat (first | refine blk_drewN ?_ _ | refine blk_drew ?_ | refine blk_alloc ?_ _)); refine blk_put (cs := #[.int .i64 a1_0, .int .i64 a1_1, .slice A1_2 l1_2.length c1_2, .slice none 0 0]) ?_ 3 _ rfl; (with_reducible repeat (first | refine blk_drewN ?_ _ | refine blk_drew ?_ | refine blk_alloc ?_ _)); refine blk_put (cs := #[.int .i64 a1_0, .int .i64 a1_1, .slice none 0 0, .slice none 0 0]) ?_ 2 _ rfl; (with_reducible repeat (first | refine blk_drewN ?_ _ | refine blk_drew ?_ | refine blk_alloc ?_ _)); refine blk_put (cs := #[.int .i64 a1_0, .int .i64 0, .slice none 0 0, .slice none 0 0]) ?_ 1 _ rfl; (with_reducible repeat (first | refine blk_drewN ?_ _ | refine blk_drew ?_ | refine blk_alloc ?_ _)); refine blk_put (cs := #[.int .i64 0, .int .i64 0, .slice none 0 0, .slice none 0 0]) ?_ 0 _ rfl; (with_reducible repeat (first | refine blk_drewN ?_ _ | refine blk_drew ?_ | refine blk_alloc ?_ _)); exact BK220.out) Try.underlying27 rfl (by kernel_rfl) rfl (by (with_reducible repeat (first | refine blk_drewN ?_ _ | refine blk_drew ?_ | refine blk_alloc ?_ _)); refine blk_put (cs := #[.bool false, .int .i64 0, .int .i64 0, .int .i64 0]) ?_ 3 _ rfl; (with_reducible repeat (first | refine blk_drewN ?_ _ | refine blk_drew ?_ | refine blk_alloc ?_ _)); refine blk_put (cs := #[.bool false, .int .i64 0, .int .i64 0, .int .i64 0]) ?_ 2 _ rfl; (with_reducible repeat (first | refine blk_drewN ?_ _ | refine blk_drew ?_ | refine blk_alloc ?_ _)); refine blk_put (cs := #[.bool false, .int .i64 0, .int .i64 0, .int .i64 0]) ?_ 1 _ rfl; (with_reducible repeat (first | refine blk_drewN ?_ _ | refine blk_drew ?_ | refine blk_alloc ?_ _)); refine blk_put (cs := #[.bool false, .int .i64 0, .int .i64 0, .int .i64 0]) ?_ 0 _ rfl; (with_reducible repeat (first | refine blk_drewN ?_ _ | refine blk_drew ?_ | refine blk_alloc ?_ _)); refine blk_far ?_ NB221_220.out _; (with_reducible repeat (first | refine blk_drewN ?_ _ | refine blk_drew ?_ | refine blk_alloc ?_ _)); refine blk_far ?_ NB221_220.out _; (with_reducible repeat (first | refine blk_drewN ?_ _ | refine blk_drew ?_ | refine blk_alloc ?_ _)); refine blk_far ?_ NB221_220.out _; (with_reducible repeat (first | refine blk_drewN ?_ _ | refine blk_drew ?_ | refine blk_alloc ?_ _)); refine blk_far ?_ NB221_220.out _; (with_reducible repeat (first | refine blk_drewN ?_ _ | refine blk_drew ?_ | refine blk_alloc ?_ _)); exact BK221.out) Try.underlying32 rfl (by kernel_rfl)) rfl ?_
        exact ⟨_, _, by first | (with_reducible rfl) | rfl | (simp [errW_none, errW_some] <;> rfl) | (simp [*, errW_none, errW_some] <;> rfl), by (with_reducible repeat (first | apply Kd.V_alloc | apply Kd.V_drewN | apply Kd.V_drew)); exact Kd.V_mono (Kd.V_far (p := ⟨gb221, 3, none⟩) (Kd.V_far (p := ⟨gb221, 2, none⟩) (Kd.V_far (p := ⟨gb221, 1, none⟩) (Kd.V_far (p := ⟨gb221, 0, none⟩) (Kd.V_far (p := ⟨gb220, 3, none⟩) (Kd.V_far (p := ⟨gb220, 2, none⟩) (Kd.V_far (p := ⟨gb220, 1, none⟩) (Kd.V_far (p := ⟨gb220, 0, none⟩) (Kd.V_mono (Kd.V_mono HO_220002.out (fun k_ hk => (⟨hk, hk.2.2.2.1⟩ : _ ∧ k_ ≠ gb220))) (fun k_ hk => (⟨hk, hk.1.2.2.2.2⟩ : _ ∧ k_ ≠ gb221))) (fun _ hk => hk.1.2) (.int .i64 a1_0)) (fun _ hk => hk.1.2) (.int .i64 a1_1)) (fun _ hk => hk.1.2) (.slice A1_2 l1_2.length c1_2)) (fun _ hk => hk.1.2) (.slice A1_3 l1_3.length c1_3)) (fun _ hk => hk.2) (.bool false)) (fun _ hk => hk.2) (.int .i64 0)) (fun _ hk => hk.2) (.int .i64 0)) (fun _ hk => hk.2) (.int .i64 0)) (fun _ hk => hk.1.1.1), by (with_reducible repeat (first | apply Kd.V_alloc | apply Kd.V_drewN | apply Kd.V_drew)); exact Kd.V_mono (Kd.V_far (p := ⟨gb221, 3, none⟩) (Kd.V_far (p := ⟨gb221, 2, none⟩) (Kd.V_far (p := ⟨gb221, 1, none⟩) (Kd.V_far (p := ⟨gb221, 0, none⟩) (Kd.V_far (p := ⟨gb220, 3, none⟩) (Kd.V_far (p := ⟨gb220, 2, none⟩) (Kd.V_far (p := ⟨gb220, 1, none⟩) (Kd.V_far (p := ⟨gb220, 0, none⟩) (Kd.V_mono (Kd.V_mono HO_220003.out (fun k_ hk => (⟨hk, hk.2.2.2.1⟩ : _ ∧ k_ ≠ gb220))) (fun k_ hk => (⟨hk, hk.1.2.2.2.2⟩ : _ ∧ k_ ≠ gb221))) (fun _ hk => hk.1.2) (.int .i64 a1_0)) (fun _ hk => hk.1.2) (.int .i64 a1_1)) (fun _ hk => hk.1.2) (.slice A1_2 l1_2.length c1_2)) (fun _ hk => hk.1.2) (.slice A1_3 l1_3.length c1_3)) (fun _ hk => hk.2) (.bool false)) (fun _ hk => hk.2) (.int .i64 0)) (fun _ hk => hk.2) (.int .i64 0)) (fun _ hk => hk.2) (.int .i64 0)) (fun _ hk => hk.1.1.1), bl HB⟩
      · replace c39 := Bool.eq_false_iff.mpr c39
        subst c39
        rw [if_neg (show ¬ (false = true) by decide)] at H
        obtain ⟨ji49, hji49⟩ : ∃ j_ : Int, (mx a2 a1_0) = j_ := ⟨_, rfl⟩
        replace H : ((sandglassref11_Total.f kj4 a0_0 a0_1 a0_2 a0_3 a1_0 a1_1 l1_2 l1_3 (ji49)).bind fun t225 => (if a0_2 = 0 then (none) else (if (wrap64 (t225 + a3)) ≤ a0_1 then (if (wrap64 (t225 + a3)) > 0 then (some (ji49, wrap64 (t225 + a3), ([] : List Int), ([] : List (S53)), decide ((wrap64 (t225 + a3)) ≤ a0_1), wrap64 (a0_1 - (wrap64 (t225 + a3))), 0, wrap64 ((wrap64 (a0_2 * (wrap64 ((wrap64 (Int.tdiv (ji49) a0_2)) + 1)))) - (ji49)))) else (some (ji49, wrap64 (t225 + a3), ([] : List Int), ([] : List (S53)), decide ((wrap64 (t225 + a3)) ≤ a0_1), wrap64 (a0_1 - (wrap64 (t225 + a3))), 0, 0))) else (if a3 > a0_1 then (if t225 > 0 then (some (ji49, t225, ([] : List Int), ([] : List (S53)), decide ((wrap64 (t225 + a3)) ≤ a0_1), wrap64 (a0_1 - t225), 2199023255552, wrap64 ((wrap64 (a0_2 * (wrap64 ((wrap64 (Int.tdiv (ji49) a0_2)) + 1)))) - (ji49)))) else (some (ji49, t225, ([] : List Int), ([] : List (S53)), decide ((wrap64 (t225 + a3)) ≤ a0_1), wrap64 (a0_1 - t225), 2199023255552, 0))) else (if t225 > 0 then (some (ji49, t225, ([] : List Int), ([] : List (S53)), decide ((wrap64 (t225 + a3)) ≤ a0_1), wrap64 (a0_1 - t225), wrap64 ((wrap64 (a0_2 * (wrap64 ((wrap64 (Int.tdiv (ji49) a0_2)) + 1)))) - (ji49)), wrap64 ((wrap64 (a0_2 * (wrap64 ((wrap64 (Int.tdiv (ji49) a0_2)) + 1)))) - (ji49)))) else (some (ji49, t225, ([] : List Int), ([] : List (S53)), decide ((wrap64 (t225 + a3)) ≤ a0_1), wrap64 (a0_1 - t225), wrap64 ((wrap64 (a0_2 * (wrap64 ((wrap64 (Int.tdiv (ji49) a0_2)) + 1)))) - (ji49)), 0))))))) = some (r1, r2, r3, r4, r5, r6, r7, r8) := by first | (rw [hji49] at H; exact H) | (simp only [hji49] at H ⊢; exact H)
        have hji49_ : (if a2 < a1_0 then a1_0 else a2) = ji49 := hji49
        replace H := Option.bind_eq_some_iff.mp H
        obtain ⟨t225, A500, H⟩ := H
        have A50 := Aside0.mk A500
        clear A500
        by_cases c51 : a0_2 = 0
        · rw [if_pos c51] at H
          exact absurd H (by simp)
        · rw [if_neg c51] at H
          have c51b0 : (a0_2 == 0) = false := beq_eq_false_iff_ne.mpr c51
          have c51b1 : (a0_2 != 0) = true := bne_iff_ne.mpr c51
          by_cases c52 : (wrap64 (t225 + a3)) ≤ a0_1
          · rw [if_pos c52] at H
            have c52b0 : decide ((wrap64 (t225 + a3)) ≤ a0_1) = true := decide_eq_true c52
            clear c52
            by_cases c53 : (wrap64 (t225 + a3)) > 0
            · rw [if_pos c53] at H
              have c53b0 : decide (0 < (wrap64 (t225 + a3))) = true := decide_eq_true c53
              clear c53
              simp only [Option.some.injEq, Prod.mk.injEq] at H
              obtain ⟨rfl, rfl, rfl, rfl, rfl, rfl, rfl, rfl⟩ := H
              have hnb54 := NB219_218.out
              have hnc54 := NB218_219.out
              have hnb55 := NB219_220.out
              have hnc55 := NB220_219.out
              have hnb56 := NB219_221.out
              have hnc56 := NB221_219.out
              obtain ⟨hcz57_0, hcz57_1, hcz57_2, hcz57_3⟩ := ce4 BK219
              obtain ⟨hfz57_0, hfz57_1, hfz57_2, hfz57_3⟩ := fr4 BK219
              have hnb58 := NB218_220.out
              have hnc58 := NB220_218.out
              have hnb59 := NB218_221.out
              have hnc59 := NB221_218.out
              obtain ⟨hcz60_0, hcz60_1, hcz60_2, hcz60_3⟩ := ce4 BK218
              obtain ⟨hfz60_0, hfz60_1, hfz60_2, hfz60_3⟩ := fr4 BK218
              try go_wp2_with (first | ((with_reducible refine gate_callee (f := 16) rfl ?_); refine goesL_ (some 36) rfl rfl Try.func16 (by kernel_rfl) rfl #[.agg #[.int .i64 a0_0, .int .i64 a0_1, .int .i64 a0_2, .int .i64 a0_3], .agg #[.int .i64 a1_0, .int .i64 a1_1, .slice A1_2 l1_2.length c1_2, .slice A1_3 l1_3.length c1_3], .int .i64 ji49] rfl (by (try simp only [List.map_toArray, List.map_cons, List.map_nil]); first | done | (simp only [hji49]; rfl) | rfl | (simp only [List.length_drop, List.length_take]; rfl)) ?_; (with_reducible refine (sandglassref11_Total.calls kj4 a0_0 a0_1 a0_2 a0_3 a1_0 a1_1 _ _ l1_2 _ _ l1_3 ji49 t225 _ ?side1 ?side2 ?side3 ?side4 A50.out).mono ?_); (case side1 => repeat (first | exact (Kd.V_reads' HO_220002.out).2.2 | (with_reducible refine Kd.C_alloc ?_ _) | (with_reducible refine Kd.C_drewN ?_ _) | (with_reducible refine Kd.C_drew ?_))); (case side2 => exact (Kd.V_reads' HO_220002.out).2.1); (case side3 => repeat (first | exact (Kd.V_reads' HO_220003.out).2.2 | (with_reducible refine Kd.C_alloc ?_ _) | (with_reducible refine Kd.C_drewN ?_ _) | (with_reducible refine Kd.C_drew ?_))); (case side4 => exact (Kd.V_reads' HO_220003.out).2.1); rintro e w61 ⟨rfl, hb⟩; refine ⟨_, rfl, ?_⟩; replace HO_220002 := vb HO_220002 hb; replace HO_220003 := vb HO_220003 hb; replace BK218 := Aside0.mk (blk_below (bo BK218) hb); replace BK219 := Aside0.mk (blk_below (bo BK219) hb); replace BK220 := Aside0.mk (blk_below (bo BK220) hb); replace BK221 := Aside0.mk (blk_below (bo BK221) hb); replace HB := Aside0.mk (below_step (bl HB) hb); (try clear hb); (try clear hb2); (try clear hk); (try clear hi)))
              replace HO_220002 := Aside0.mk (Kd.V_drew HO_220002.out)
              replace HO_220003 := Aside0.mk (Kd.V_drew HO_220003.out)
              replace BK218 := Aside0.mk (blk_drew BK218.out)
              replace BK219 := Aside0.mk (blk_drew BK219.out)
              replace BK220 := Aside0.mk (blk_drew BK220.out)
              replace BK221 := Aside0.mk (blk_drew BK221.out)
              replace HB := Aside0.mk (below_drew1 HB.out)
              refine start_ (n := 11) (S := fun w' => w'.cell? ⟨gb218, 0, none⟩ = some (.int .i64 a0_0) ∧ w'.cell? ⟨gb218, 1, none⟩ = some (.int .i64 a0_1) ∧ w'.cell? ⟨gb218, 2, none⟩ = some (.int .i64 a0_2) ∧ w'.cell? ⟨gb218, 3, none⟩ = some (.int .i64 a0_3)) (ds := []) #[false, false, false, false, false, false, false, false, false, false, false] (by kernel_rfl) rfl rfl ⟨(blk_cell BK218.out 0).trans rfl, (blk_cell BK218.out 1).trans rfl, (blk_cell BK218.out 2).trans rfl, (blk_cell BK218.out 3).trans rfl⟩ (fun hHeld => ?_); refine with_tabW sandglassref11_Ask.tab5 sandglassref11_Ask.bits5 (fun HT_ HW_ => ?_)
              generalize w61.drew = w62 at HO_220002 HO_220003 BK218 BK219 BK220 BK221 HB hHeld ⊢
              refine pureA 0 37 HT_ ?_
              refine pureA 2 39 HT_ ?_
              refine pureA 3 40 HT_ ?_
              refine pureA 8 45 HT_ ?_
              refine takeA 1 38 HT_ HW_ hHeld ?_
              refine takeA 4 41 HT_ HW_ hHeld ?_
              refine pureA 5 42 HT_ ?_
              refine pureA 6 43 HT_ ?_
              refine pureA 7 44 HT_ ?_
              refine pureA 9 46 HT_ ?_
              refine pureA 10 11 HT_ ?_
              refine done_ (done_of HT_.out (by kernel_rfl)) ?_
              obtain ⟨hcz63_0, hcz63_1, hcz63_2, hcz63_3⟩ := ce4 BK218
              obtain ⟨hfz63_0, hfz63_1, hfz63_2, hfz63_3⟩ := fr4 BK218
              try go_wp2_with (first | ((with_reducible refine gate_dst (N := 12) rfl ?_); refine box_event ?hg (N := 12) ?hd (cs := #[.bool false, .int .i64 0, .int .i64 0, .int .i64 0]) (t := 32) ?hr ?_; (case hd => rfl); (case hg => rfl); (case hr => first | (go_simp; done) | (go_simp; rfl)); intro gb226 hg w64 hbox hb; have BK226 := Aside0.mk (hbox); have GW226 := Aside0.mk ((by rw [hg]; exact (below_size (bl HB)) : w.heap.size ≤ gb226)); have GE226 := Aside0.mk ((by rw [hg]; exact (below_size (bl HB)) : w.heap.size ≤ gb226)); have NB218_226 := nb BK218 hg; have NB226_218 := bn BK218 hg; have NB219_226 := nb BK219 hg; have NB226_219 := bn BK219 hg; have NB220_226 := nb BK220 hg; have NB226_220 := bn BK220 hg; have NB221_226 := nb BK221 hg; have NB226_221 := bn BK221 hg; replace HO_220002 := ve HO_220002 hg hb; replace HO_220003 := ve HO_220003 hg hb; replace BK218 := Aside0.mk (blk_below (bo BK218) hb); replace BK219 := Aside0.mk (blk_below (bo BK219) hb); replace BK220 := Aside0.mk (blk_below (bo BK220) hb); replace BK221 := Aside0.mk (blk_below (bo BK221) hb); replace HB := Aside0.mk (below_step (bl HB) hb); clear hb hbox hg; have hnb65 := NB226_218.out; have hnc65 := NB218_226.out; have hnb66 := NB226_219.out; have hnc66 := NB219_226.out; have hnb67 := NB226_220.out; have hnc67 := NB220_226.out; have hnb68 := NB226_221.out; have hnc68 := NB221_226.out; obtain ⟨hcz69_0, hcz69_1, hcz69_2, hcz69_3⟩ := ce4 BK226; obtain ⟨hfz69_0, hfz69_1, hfz69_2, hfz69_3⟩ := fr4 BK226; obtain ⟨hcz70_0, hcz70_1, hcz70_2, hcz70_3⟩ := ce4 BK218; obtain ⟨hfz70_0, hfz70_1, hfz70_2, hfz70_3⟩ := fr4 BK218))
              have n0_ : Aside0 (Kd.V (Kd.int .i64) 3 ((((((w64.setCell ⟨gb226, 0, none⟩ (.bool true)).setCell ⟨gb226, 1, none⟩ (.int .i64 0)).setCell ⟨gb226, 2, none⟩ (.int .i64 0)).setCell ⟨gb226, 3, none⟩ (.int .i64 0)).setCell ⟨gb226, 1, none⟩ (.int .i64 (wrap64 (a0_1 - (wrap64 (t225 + a3)))))).setCell ⟨gb226, 3, none⟩ (.int .i64 (wrap64 ((wrap64 (a0_2 * (wrap64 ((wrap64 (Int.tdiv (ji49) a0_2)) + 1)))) - (ji49))))) w.heap.size (fun k_ => ((P1_2_ k_ ∨ P1_3_ k_) ∨ w.heap.size ≤ k_) ∧ k_ ≠ gb218 ∧ k_ ≠ gb219 ∧ k_ ≠ gb220 ∧ k_ ≠ gb221 ∧ k_ ≠ gb226) (.slice A1_2 l1_2.length c1_2) l1_2) := ⟨by (with_reducible repeat (first | apply Kd.V_alloc | apply Kd.V_drewN | apply Kd.V_drew)); exact Kd.V_mono (Kd.V_far (p := ⟨gb226, 3, none⟩) (Kd.V_far (p := ⟨gb226, 1, none⟩) (Kd.V_far (p := ⟨gb226, 3, none⟩) (Kd.V_far (p := ⟨gb226, 2, none⟩) (Kd.V_far (p := ⟨gb226, 1, none⟩) (Kd.V_far (p := ⟨gb226, 0, none⟩) (Kd.V_mono HO_220002.out (fun k_ hk => (⟨hk, hk.2⟩ : _ ∧ k_ ≠ gb226))) (fun _ hk => hk.2) (.bool true)) (fun _ hk => hk.2) (.int .i64 0)) (fun _ hk => hk.2) (.int .i64 0)) (fun _ hk => hk.2) (.int .i64 0)) (fun _ hk => hk.2) (.int .i64 (wrap64 (a0_1 - (wrap64 (t225 + a3)))))) (fun _ hk => hk.2) (.int .i64 (wrap64 ((wrap64 (a0_2 * (wrap64 ((wrap64 (Int.tdiv (ji49) a0_2)) + 1)))) - (ji49))))) (fun _ hk => ⟨hk.1.1.1, ⟨hk.1.1.2.1, ⟨hk.1.1.2.2.1, ⟨hk.1.1.2.2.2.1, ⟨hk.1.1.2.2.2.2, hk.1.2⟩⟩⟩⟩⟩)⟩
              have n1_ : Aside0 (Kd.V k53 53 ((((((w64.setCell ⟨gb226, 0, none⟩ (.bool true)).setCell ⟨gb226, 1, none⟩ (.int .i64 0)).setCell ⟨gb226, 2, none⟩ (.int .i64 0)).setCell ⟨gb226, 3, none⟩ (.int .i64 0)).setCell ⟨gb226, 1, none⟩ (.int .i64 (wrap64 (a0_1 - (wrap64 (t225 + a3)))))).setCell ⟨gb226, 3, none⟩ (.int .i64 (wrap64 ((wrap64 (a0_2 * (wrap64 ((wrap64 (Int.tdiv (ji49) a0_2)) + 1)))) - (ji49))))) w.heap.size (fun k_ => ((P1_2_ k_ ∨ P1_3_ k_) ∨ w.heap.size ≤ k_) ∧ k_ ≠ gb218 ∧ k_ ≠ gb219 ∧ k_ ≠ gb220 ∧ k_ ≠ gb221 ∧ k_ ≠ gb226) (.slice A1_3 l1_3.length c1_3) l1_3) := ⟨by (with_reducible repeat (first | apply Kd.V_alloc | apply Kd.V_drewN | apply Kd.V_drew)); exact Kd.V_mono (Kd.V_far (p := ⟨gb226, 3, none⟩) (Kd.V_far (p := ⟨gb226, 1, none⟩) (Kd.V_far (p := ⟨gb226, 3, none⟩) (Kd.V_far (p := ⟨gb226, 2, none⟩) (Kd.V_far (p := ⟨gb226, 1, none⟩) (Kd.V_far (p := ⟨gb226, 0, none⟩) (Kd.V_mono HO_220003.out (fun k_ hk => (⟨hk, hk.2⟩ : _ ∧ k_ ≠ gb226))) (fun _ hk => hk.2) (.bool true)) (fun _ hk => hk.2) (.int .i64 0)) (fun _ hk => hk.2) (.int .i64 0)) (fun _ hk => hk.2) (.int .i64 0)) (fun _ hk => hk.2) (.int .i64 (wrap64 (a0_1 - (wrap64 (t225 + a3)))))) (fun _ hk => hk.2) (.int .i64 (wrap64 ((wrap64 (a0_2 * (wrap64 ((wrap64 (Int.tdiv (ji49) a0_2)) + 1)))) - (ji49))))) (fun _ hk => ⟨hk.1.1.1, ⟨hk.1.1.2.1, ⟨hk.1.1.2.2.1, ⟨hk.1.1.2.2.2.1, ⟨hk.1.1.2.2.2.2, hk.1.2⟩⟩⟩⟩⟩)⟩
              have n2_ : Aside0 (((((((w64.setCell ⟨gb226, 0, none⟩ (.bool true)).setCell ⟨gb226, 1, none⟩ (.int .i64 0)).setCell ⟨gb226, 2, none⟩ (.int .i64 0)).setCell ⟨gb226, 3, none⟩ (.int .i64 0)).setCell ⟨gb226, 1, none⟩ (.int .i64 (wrap64 (a0_1 - (wrap64 (t225 + a3)))))).setCell ⟨gb226, 3, none⟩ (.int .i64 (wrap64 ((wrap64 (a0_2 * (wrap64 ((wrap64 (Int.tdiv (ji49) a0_2)) + 1)))) - (ji49))))).heap[gb218]? = some (.cells #[.int .i64 a0_0, .int .i64 a0_1, .int .i64 a0_2, .int .i64 a0_3] 23 (0, 0))) := ⟨by (with_reducible repeat (first | refine blk_drewN ?_ _ | refine blk_drew ?_ | refine blk_alloc ?_ _)); refine blk_far ?_ NB218_226.out _; (with_reducible repeat (first | refine blk_drewN ?_ _ | refine blk_drew ?_ | refine blk_alloc ?_ _)); refine blk_far ?_ NB218_226.out _; (with_reducible repeat (first | refine blk_drewN ?_ _ | refine blk_drew ?_ | refine blk_alloc ?_ _)); refine blk_far ?_ NB218_226.out _; (with_reducible repeat (first | refine blk_drewN ?_ _ | refine blk_drew ?_ | refine blk_alloc ?_ _)); refine blk_far ?_ NB218_226.out _; (with_reducible repeat (first | refine blk_drewN ?_ _ | refine blk_drew ?_ | refine blk_alloc ?_ _)); refine blk_far ?_ NB218_226.out _; (with_reducible repeat (first | refine blk_drewN ?_ _ | refine blk_drew ?_ | refine blk_alloc ?_ _)); refine blk_far ?_ NB218_226.out _; (with_reducible repeat (first | refine blk_drewN ?_ _ | refine blk_drew ?_ | refine blk_alloc ?_ _)); exact BK218.out⟩
              have n3_ : Aside0 (((((((w64.setCell ⟨gb226, 0, none⟩ (.bool true)).setCell ⟨gb226, 1, none⟩ (.int .i64 0)).setCell ⟨gb226, 2, none⟩ (.int .i64 0)).setCell ⟨gb226, 3, none⟩ (.int .i64 0)).setCell ⟨gb226, 1, none⟩ (.int .i64 (wrap64 (a0_1 - (wrap64 (t225 + a3)))))).setCell ⟨gb226, 3, none⟩ (.int .i64 (wrap64 ((wrap64 (a0_2 * (wrap64 ((wrap64 (Int.tdiv (ji49) a0_2)) + 1)))) - (ji49))))).heap[gb219]? = some (.cells #[.int .i64 a1_0, .int .i64 a1_1, .slice A1_2 l1_2.length c1_2, .slice A1_3 l1_3.length c1_3] 27 (0, 0))) := ⟨by (with_reducible repeat (first | refine blk_drewN ?_ _ | refine blk_drew ?_ | refine blk_alloc ?_ _)); refine blk_far ?_ NB219_226.out _; (with_reducible repeat (first | refine blk_drewN ?_ _ | refine blk_drew ?_ | refine blk_alloc ?_ _)); refine blk_far ?_ NB219_226.out _; (with_reducible repeat (first | refine blk_drewN ?_ _ | refine blk_drew ?_ | refine blk_alloc ?_ _)); refine blk_far ?_ NB219_226.out _; (with_reducible repeat (first | refine blk_drewN ?_ _ | refine blk_drew ?_ | refine blk_alloc ?_ _)); refine blk_far ?_ NB219_226.out _; (with_reducible repeat (first | refine blk_drewN ?_ _ | refine blk_drew ?_ | refine blk_alloc ?_ _)); refine blk_far ?_ NB219_226.out _; (with_reducible repeat (first | refine blk_drewN ?_ _ | refine blk_drew ?_ | refine blk_alloc ?_ _)); refine blk_far ?_ NB219_226.out _; (with_reducible repeat (first | refine blk_drewN ?_ _ | refine blk_drew ?_ | refine blk_alloc ?_ _)); exact BK219.out⟩
              have n4_ : Aside0 (((((((w64.setCell ⟨gb226, 0, none⟩ (.bool true)).setCell ⟨gb226, 1, none⟩ (.int .i64 0)).setCell ⟨gb226, 2, none⟩ (.int .i64 0)).setCell ⟨gb226, 3, none⟩ (.int .i64 0)).setCell ⟨gb226, 1, none⟩ (.int .i64 (wrap64 (a0_1 - (wrap64 (t225 + a3)))))).setCell ⟨gb226, 3, none⟩ (.int .i64 (wrap64 ((wrap64 (a0_2 * (wrap64 ((wrap64 (Int.tdiv (ji49) a0_2)) + 1)))) - (ji49))))).heap[gb220]? = some (.cells #[.int .i64 0, .int .i64 0, .slice none 0 0, .slice none 0 0] 27 (0, 0))) := ⟨by (with_reducible repeat (first | refine blk_drewN ?_ _ | refine blk_drew ?_ | refine blk_alloc ?_ _)); refine blk_far ?_ NB220_226.out _; (with_reducible repeat (first | refine blk_drewN ?_ _ | refine blk_drew ?_ | refine blk_alloc ?_ _)); refine blk_far ?_ NB220_226.out _; (with_reducible repeat (first | refine blk_drewN ?_ _ | refine blk_drew ?_ | refine blk_alloc ?_ _)); refine blk_far ?_ NB220_226.out _; (with_reducible repeat (first | refine blk_drewN ?_ _ | refine blk_drew ?_ | refine blk_alloc ?_ _)); refine blk_far ?_ NB220_226.out _; (with_reducible repeat (first | refine blk_drewN ?_ _ | refine blk_drew ?_ | refine blk_alloc ?_ _)); refine blk_far ?_ NB220_226.out _; (with_reducible repeat (first | refine blk_drewN ?_ _ | refine blk_drew ?_ | refine blk_alloc ?_ _)); refine blk_far ?_ NB220_226.out _; (with_reducible repeat (first | refine blk_drewN ?_ _ | refine blk_drew ?_ | refine blk_alloc ?_ _)); exact BK220.out⟩
              have n5_ : Aside0 (((((((w64.setCell ⟨gb226, 0, none⟩ (.bool true)).setCell ⟨gb226, 1, none⟩ (.int .i64 0)).setCell ⟨gb226, 2, none⟩ (.int .i64 0)).setCell ⟨gb226, 3, none⟩ (.int .i64 0)).setCell ⟨gb226, 1, none⟩ (.int .i64 (wrap64 (a0_1 - (wrap64 (t225 + a3)))))).setCell ⟨gb226, 3, none⟩ (.int .i64 (wrap64 ((wrap64 (a0_2 * (wrap64 ((wrap64 (Int.tdiv (ji49) a0_2)) + 1)))) - (ji49))))).heap[gb221]? = some (.cells #[.bool false, .int .i64 0, .int .i64 0, .int .i64 0] 32 (0, 0))) := ⟨by (with_reducible repeat (first | refine blk_drewN ?_ _ | refine blk_drew ?_ | refine blk_alloc ?_ _)); refine blk_far ?_ NB221_226.out _; (with_reducible repeat (first | refine blk_drewN ?_ _ | refine blk_drew ?_ | refine blk_alloc ?_ _)); refine blk_far ?_ NB221_226.out _; (with_reducible repeat (first | refine blk_drewN ?_ _ | refine blk_drew ?_ | refine blk_alloc ?_ _)); refine blk_far ?_ NB221_226.out _; (with_reducible repeat (first | refine blk_drewN ?_ _ | refine blk_drew ?_ | refine blk_alloc ?_ _)); refine blk_far ?_ NB221_226.out _; (with_reducible repeat (first | refine blk_drewN ?_ _ | refine blk_drew ?_ | refine blk_alloc ?_ _)); refine blk_far ?_ NB221_226.out _; (with_reducible repeat (first | refine blk_drewN ?_ _ | refine blk_drew ?_ | refine blk_alloc ?_ _)); refine blk_far ?_ NB221_226.out _; (with_reducible repeat (first | refine blk_drewN ?_ _ | refine blk_drew ?_ | refine blk_alloc ?_ _)); exact BK221.out⟩
              have n6_ : Aside0 (((((((w64.setCell ⟨gb226, 0, none⟩ (.bool true)).setCell ⟨gb226, 1, none⟩ (.int .i64 0)).setCell ⟨gb226, 2, none⟩ (.int .i64 0)).setCell ⟨gb226, 3, none⟩ (.int .i64 0)).setCell ⟨gb226, 1, none⟩ (.int .i64 (wrap64 (a0_1 - (wrap64 (t225 + a3)))))).setCell ⟨gb226, 3, none⟩ (.int .i64 (wrap64 ((wrap64 (a0_2 * (wrap64 ((wrap64 (Int.tdiv (ji49) a0_2)) + 1)))) - (ji49))))).heap[gb226]? = some (.cells #[.bool true, .int .i64 (wrap64 (a0_1 - (wrap64 (t225 + a3)))), .int .i64 0, .int .i64 (wrap64 ((wrap64 (a0_2 * (wrap64 ((wrap64 (Int.tdiv (ji49) a0_2)) + 1)))) - (ji49)))] 32 (0, 0))) := ⟨by (with_reducible repeat (first | refine blk_drewN ?_ _ | refine blk_drew ?_ | refine blk_alloc ?_ _)); refine blk_put (cs := #[.bool true, .int .i64 (wrap64 (a0_1 - (wrap64 (t225 + a3)))), .int .i64 0, .int .i64 0]) ?_ 3 _ rfl; (with_reducible repeat (first | refine blk_drewN ?_ _ | refine blk_drew ?_ | refine blk_alloc ?_ _)); refine blk_put (cs := #[.bool true, .int .i64 0, .int .i64 0, .int .i64 0]) ?_ 1 _ rfl; (with_reducible repeat (first | refine blk_drewN ?_ _ | refine blk_drew ?_ | refine blk_alloc ?_ _)); refine blk_put (cs := #[.bool true, .int .i64 0, .int .i64 0, .int .i64 0]) ?_ 3 _ rfl; (with_reducible repeat (first | refine blk_drewN ?_ _ | refine blk_drew ?_ | refine blk_alloc ?_ _)); refine blk_put (cs := #[.bool true, .int .i64 0, .int .i64 0, .int .i64 0]) ?_ 2 _ rfl; (with_reducible repeat (first | refine blk_drewN ?_ _ | refine blk_drew ?_ | refine blk_alloc ?_ _)); refine blk_put (cs := #[.bool true, .int .i64 0, .int .i64 0, .int .i64 0]) ?_ 1 _ rfl; (with_reducible repeat (first | refine blk_drewN ?_ _ | refine blk_drew ?_ | refine blk_alloc ?_ _)); refine blk_put (cs := #[.bool false, .int .i64 0, .int .i64 0, .int .i64 0]) ?_ 0 _ rfl; (with_reducible repeat (first | refine blk_drewN ?_ _ | refine blk_drew ?_ | refine blk_alloc ?_ _)); exact BK226.out⟩
              have n7_ : Aside0 (Below w.heap.size w ((((((w64.setCell ⟨gb226, 0, none⟩ (.bool true)).setCell ⟨gb226, 1, none⟩ (.int .i64 0)).setCell ⟨gb226, 2, none⟩ (.int .i64 0)).setCell ⟨gb226, 3, none⟩ (.int .i64 0)).setCell ⟨gb226, 1, none⟩ (.int .i64 (wrap64 (a0_1 - (wrap64 (t225 + a3)))))).setCell ⟨gb226, 3, none⟩ (.int .i64 (wrap64 ((wrap64 (a0_2 * (wrap64 ((wrap64 (Int.tdiv (ji49) a0_2)) + 1)))) - (ji49)))))) := ⟨bl HB⟩
              (try clear HO_220002)
              (try clear HO_220003)
              (try clear BK218)
              (try clear BK219)
              (try clear BK220)
              (try clear BK221)
              (try clear BK226)
              (try clear HB)
              generalize ((((((w64.setCell ⟨gb226, 0, none⟩ (.bool true)).setCell ⟨gb226, 1, none⟩ (.int .i64 0)).setCell ⟨gb226, 2, none⟩ (.int .i64 0)).setCell ⟨gb226, 3, none⟩ (.int .i64 0)).setCell ⟨gb226, 1, none⟩ (.int .i64 (wrap64 (a0_1 - (wrap64 (t225 + a3)))))).setCell ⟨gb226, 3, none⟩ (.int .i64 (wrap64 ((wrap64 (a0_2 * (wrap64 ((wrap64 (Int.tdiv (ji49) a0_2)) + 1)))) - (ji49))))) = w71 at n0_ n1_ n2_ n3_ n4_ n5_ n6_ n7_ ⊢
              have HO_220002 := n0_
              have HO_220003 := n1_
              have BK218 := n2_
              have BK219 := n3_
              have BK220 := n4_
              have BK221 := n5_
              have BK226 := n6_
              have HB := n7_
              clear n0_ n1_ n2_ n3_ n4_ n5_ n6_ n7_
              replace HO_220002 := Aside0.mk (Kd.V_drew HO_220002.out)
              replace HO_220003 := Aside0.mk (Kd.V_drew HO_220003.out)
              replace BK218 := Aside0.mk (blk_drew BK218.out)
              replace BK219 := Aside0.mk (blk_drew BK219.out)
              replace BK220 := Aside0.mk (blk_drew BK220.out)
              replace BK221 := Aside0.mk (blk_drew BK221.out)
              replace BK226 := Aside0.mk (blk_drew BK226.out)
              replace HB := Aside0.mk (below_drew1 HB.out)
              refine start_ (n := 6) (S := fun w' => w'.cell? ⟨gb226, 0, none⟩ = some (.bool true) ∧ w'.cell? ⟨gb226, 1, none⟩ = some (.int .i64 (wrap64 (a0_1 - (wrap64 (t225 + a3))))) ∧ w'.cell? ⟨gb226, 2, none⟩ = some (.int .i64 0) ∧ w'.cell? ⟨gb226, 3, none⟩ = some (.int .i64 (wrap64 ((wrap64 (a0_2 * (wrap64 ((wrap64 (Int.tdiv (ji49) a0_2)) + 1)))) - (ji49))))) (ds := []) #[false, false, false, false, false, false] (by kernel_rfl) rfl rfl ⟨(blk_cell BK226.out 0).trans rfl, (blk_cell BK226.out 1).trans rfl, (blk_cell BK226.out 2).trans rfl, (blk_cell BK226.out 3).trans rfl⟩ (fun hHeld => ?_)
              generalize w71.drew = w72 at HO_220002 HO_220003 BK218 BK219 BK220 BK221 BK226 HB hHeld ⊢
              refine pureB 0 75 ?_
              refine pureB 1 76 ?_
              refine pureB 2 77 ?_
              refine takeB' 3 78 hHeld ?_
              refine one_ (i := 4) (N := none) #[true, true, true, true, true, false] rfl rfl (by kernel_rfl) (by decide) (fun K hK => ?_)
              have hs73 : w72.cell? ⟨gb220, 0, none⟩ = some (.int .i64 0) := (blk_cell BK220.out 0).trans rfl
              have hfs73 := blk_frozen BK220.out 0
              have hns73_0 := NB218_220.out
              have hns73_1 := NB219_220.out
              have hns73_3 := NB221_220.out
              have hns73_4 := NB226_220.out
              have hms73_0 := NB220_218.out
              have hms73_1 := NB220_219.out
              have hms73_3 := NB220_221.out
              have hms73_4 := NB220_226.out
              have hs74 : w72.cell? ⟨gb220, 1, none⟩ = some (.int .i64 0) := (blk_cell BK220.out 1).trans rfl
              have hfs74 := blk_frozen BK220.out 1
              have hns74_0 := NB218_220.out
              have hns74_1 := NB219_220.out
              have hns74_3 := NB221_220.out
              have hns74_4 := NB226_220.out
              have hms74_0 := NB220_218.out
              have hms74_1 := NB220_219.out
              have hms74_3 := NB220_221.out
              have hms74_4 := NB220_226.out
              have hs75 : w72.cell? ⟨gb220, 2, none⟩ = some (.slice none 0 0) := (blk_cell BK220.out 2).trans rfl
              have hfs75 := blk_frozen BK220.out 2
              have hns75_0 := NB218_220.out
              have hns75_1 := NB219_220.out
              have hns75_3 := NB221_220.out
              have hns75_4 := NB226_220.out
              have hms75_0 := NB220_218.out
              have hms75_1 := NB220_219.out
              have hms75_3 := NB220_221.out
              have hms75_4 := NB220_226.out
              have hs76 : w72.cell? ⟨gb220, 3, none⟩ = some (.slice none 0 0) := (blk_cell BK220.out 3).trans rfl
              have hfs76 := blk_frozen BK220.out 3
              have hns76_0 := NB218_220.out
              have hns76_1 := NB219_220.out
              have hns76_3 := NB221_220.out
              have hns76_4 := NB226_220.out
              have hms76_0 := NB220_218.out
              have hms76_1 := NB220_219.out
              have hms76_3 := NB220_221.out
              have hms76_4 := NB220_226.out
              refine skip_ (w1 := ?_) (by rfl) rfl ?_ ?_
              rotate_left
              · go_simp
                rfl
              refine hK.out _ _ ⟨((cell_far (p := ⟨gb220, _, none⟩) NB226_220.out _).trans (((cell_far (p := ⟨gb220, _, none⟩) NB226_220.out _).trans (((cell_far (p := ⟨gb220, _, none⟩) NB226_220.out _).trans (((cell_far (p := ⟨gb220, _, none⟩) NB226_220.out _).trans (hHeld.1)))))))), ((cell_far (p := ⟨gb220, _, none⟩) NB226_220.out _).trans (((cell_far (p := ⟨gb220, _, none⟩) NB226_220.out _).trans (((cell_far (p := ⟨gb220, _, none⟩) NB226_220.out _).trans (((cell_far (p := ⟨gb220, _, none⟩) NB226_220.out _).trans (hHeld.2.1)))))))), ((cell_far (p := ⟨gb220, _, none⟩) NB226_220.out _).trans (((cell_far (p := ⟨gb220, _, none⟩) NB226_220.out _).trans (((cell_far (p := ⟨gb220, _, none⟩) NB226_220.out _).trans (((cell_far (p := ⟨gb220, _, none⟩) NB226_220.out _).trans (hHeld.2.2.1)))))))), ((cell_far (p := ⟨gb220, _, none⟩) NB226_220.out _).trans (((cell_far (p := ⟨gb220, _, none⟩) NB226_220.out _).trans (((cell_far (p := ⟨gb220, _, none⟩) NB226_220.out _).trans (((cell_far (p := ⟨gb220, _, none⟩) NB226_220.out _).trans (hHeld.2.2.2))))))))⟩ (fun hHeld => ?_)
              clear hK K
              refine one_ (i := 5) (N := none) #[true, true, true, true, true, true] rfl rfl (by kernel_rfl) (by decide) (fun K hK => ?_)
              have hs77 : w72.cell? ⟨gb221, 0, none⟩ = some (.bool false) := (blk_cell BK221.out 0).trans rfl
              have hfs77 := blk_frozen BK221.out 0
              have hns77_0 := NB218_221.out
              have hns77_1 := NB219_221.out
              have hns77_2 := NB220_221.out
              have hns77_4 := NB226_221.out
              have hms77_0 := NB221_218.out
              have hms77_1 := NB221_219.out
              have hms77_2 := NB221_220.out
              have hms77_4 := NB221_226.out
              have hs78 : w72.cell? ⟨gb221, 1, none⟩ = some (.int .i64 0) := (blk_cell BK221.out 1).trans rfl
              have hfs78 := blk_frozen BK221.out 1
              have hns78_0 := NB218_221.out
              have hns78_1 := NB219_221.out
              have hns78_2 := NB220_221.out
              have hns78_4 := NB226_221.out
              have hms78_0 := NB221_218.out
              have hms78_1 := NB221_219.out
              have hms78_2 := NB221_220.out
              have hms78_4 := NB221_226.out
              have hs79 : w72.cell? ⟨gb221, 2, none⟩ = some (.int .i64 0) := (blk_cell BK221.out 2).trans rfl
              have hfs79 := blk_frozen BK221.out 2
              have hns79_0 := NB218_221.out
              have hns79_1 := NB219_221.out
              have hns79_2 := NB220_221.out
              have hns79_4 := NB226_221.out
              have hms79_0 := NB221_218.out
              have hms79_1 := NB221_219.out
              have hms79_2 := NB221_220.out
              have hms79_4 := NB221_226.out
              have hs80 : w72.cell? ⟨gb221, 3, none⟩ = some (.int .i64 0) := (blk_cell BK221.out 3).trans rfl
              have hfs80 := blk_frozen BK221.out 3
              have hns80_0 := NB218_221.out
              have hns80_1 := NB219_221.out
              have hns80_2 := NB220_221.out
              have hns80_4 := NB226_221.out
              have hms80_0 := NB221_218.out
              have hms80_1 := NB221_219.out
              have hms80_2 := NB221_220.out
              have hms80_4 := NB221_226.out
              refine skip_ (w1 := ?_) (by rfl) rfl ?_ ?_
              rotate_left
              · go_simp
                rfl
              refine hK.out _ _ ⟨((cell_far (p := ⟨gb221, _, none⟩) NB226_221.out _).trans (((cell_far (p := ⟨gb221, _, none⟩) NB226_221.out _).trans (((cell_far (p := ⟨gb221, _, none⟩) NB226_221.out _).trans (((cell_far (p := ⟨gb221, _, none⟩) NB226_221.out _).trans (hHeld.1)))))))), ((cell_far (p := ⟨gb221, _, none⟩) NB226_221.out _).trans (((cell_far (p := ⟨gb221, _, none⟩) NB226_221.out _).trans (((cell_far (p := ⟨gb221, _, none⟩) NB226_221.out _).trans (((cell_far (p := ⟨gb221, _, none⟩) NB226_221.out _).trans (hHeld.2.1)))))))), ((cell_far (p := ⟨gb221, _, none⟩) NB226_221.out _).trans (((cell_far (p := ⟨gb221, _, none⟩) NB226_221.out _).trans (((cell_far (p := ⟨gb221, _, none⟩) NB226_221.out _).trans (((cell_far (p := ⟨gb221, _, none⟩) NB226_221.out _).trans (hHeld.2.2.1)))))))), ((cell_far (p := ⟨gb221, _, none⟩) NB226_221.out _).trans (((cell_far (p := ⟨gb221, _, none⟩) NB226_221.out _).trans (((cell_far (p := ⟨gb221, _, none⟩) NB226_221.out _).trans (((cell_far (p := ⟨gb221, _, none⟩) NB226_221.out _).trans (hHeld.2.2.2))))))))⟩ (fun hHeld => ?_)
              clear hK K
              refine done_ (by kernel_rfl) ?_
              try go_wp2
              refine bodyPost_ret (results_cc rfl _ _ gb220 gb221 27 32 #[.int .i64 ji49, .int .i64 (wrap64 (t225 + a3)), .slice none 0 0, .slice none 0 0] #[.bool true, .int .i64 (wrap64 (a0_1 - (wrap64 (t225 + a3)))), .int .i64 0, .int .i64 (wrap64 ((wrap64 (a0_2 * (wrap64 ((wrap64 (Int.tdiv (ji49) a0_2)) + 1)))) - (ji49)))] (0, 0) (0, 0) _ _ rfl (by (with_reducible repeat (first | refine blk_drewN ?_ _ | refine blk_drew ?_ | refine blk_alloc ?_ _)); refine blk_far ?_ NB220_221.out _; (with_reducible repeat (first | refine blk_drewN ?_ _ | refine blk_drew ?_ | refine blk_alloc ?_ _)); refine blk_far ?_ NB220_221.out _; (with_reducible repeat (first | refine blk_drewN ?_ _ | refine blk_drew ?_ | refine blk_alloc ?_ _)); refine blk_far ?_ NB220_221.out _; (with_reducible repeat (first | refine blk_drewN ?_ _ | refine blk_drew ?_ | refine blk_alloc ?_ _)); refine blk_far ?_ NB220_221.out _; (with_reducible repeat (first | refine blk_drewN ?_ _ | refine blk_drew ?_ | refine blk_alloc ?_ _)); refine blk_put (cs := #[.int .i64 ji49, .int .i64 (wrap64 (t225 + a3)), .slice none 0 0, .slice none 0 0]) ?_ 3 _ rfl; (with_reducible repeat (first | refine blk_drewN ?_ _ | refine blk_drew ?_ | refine blk_alloc ?_ _)); refine blk_put (cs := #[.int .i64 ji49, .int .i64 (wrap64 (t225 + a3)), .slice none 0 0, .slice none 0 0]) ?_ 2 _ rfl; (with_reducible repeat (first | refine blk_drewN ?_ _ | refine blk_drew ?_ | refine blk_alloc ?_ _)); refine blk_put (cs := #[.int .i64 ji49, .int .i64 0, .slice none 0 0, .slice none 0 0]) ?_ 1 _ rfl; (with_reducible repeat (first | refine blk_drewN ?_ _ | refine blk_drew ?_ | refine blk_alloc ?_ _)); refine blk_put (cs := #[.int .i64 0, .int .i64 0, .slice none 0 0, .slice none 0 0]) ?_ 0 _ rfl; (with_reducible repeat (first | refine blk_drewN ?_ _ | refine blk_drew ?_ | refine blk_alloc ?_ _)); exact BK220.out) Try.underlying27 rfl (by kernel_rfl) rfl (by (with_reducible repeat (first | refine blk_drewN ?_ _ | refine blk_drew ?_ | refine blk_alloc ?_ _)); refine blk_put (cs := #[.bool true, .int .i64 (wrap64 (a0_1 - (wrap64 (t225 + a3)))), .int .i64 0, .int .i64 0]) ?_ 3 _ rfl; (with_reducible repeat (first | refine blk_drewN ?_ _ | refine blk_drew ?_ | refine blk_alloc ?_ _)); refine blk_put (cs := #[.bool true, .int .i64 (wrap64 (a0_1 - (wrap64 (t225 + a3)))), .int .i64 0, .int .i64 0]) ?_ 2 _ rfl; (with_reducible repeat (first | refine blk_drewN ?_ _ | refine blk_drew ?_ | refine blk_alloc ?_ _)); refine blk_put (cs := #[.bool true, .int .i64 0, .int .i64 0, .int .i64 0]) ?_ 1 _ rfl; (with_reducible repeat (first | refine blk_drewN ?_ _ | refine blk_drew ?_ | refine blk_alloc ?_ _)); refine blk_put (cs := #[.bool false, .int .i64 0, .int .i64 0, .int .i64 0]) ?_ 0 _ rfl; (with_reducible repeat (first | refine blk_drewN ?_ _ | refine blk_drew ?_ | refine blk_alloc ?_ _)); refine blk_far ?_ NB221_220.out _; (with_reducible repeat (first | refine blk_drewN ?_ _ | refine blk_drew ?_ | refine blk_alloc ?_ _)); refine blk_far ?_ NB221_220.out _; (with_reducible repeat (first | refine blk_drewN ?_ _ | refine blk_drew ?_ | refine blk_alloc ?_ _)); refine blk_far ?_ NB221_220.out _; (with_reducible repeat (first | refine blk_drewN ?_ _ | refine blk_drew ?_ | refine blk_alloc ?_ _)); refine blk_far ?_ NB221_220.out _; (with_reducible repeat (first | refine blk_drewN ?_ _ | refine blk_drew ?_ | refine blk_alloc ?_ _)); exact BK221.out) Try.underlying32 rfl (by kernel_rfl)) rfl ?_
              exact ⟨_, _, by first | (with_reducible rfl) | (simp only [← hji49]; with_reducible rfl) | (simp only [← hji49]; done) | rfl | (simp [errW_none, errW_some] <;> rfl) | (simp only [← hji49]; first | rfl | (simp [errW_none, errW_some] <;> rfl)) | (simp [*, errW_none, errW_some] <;> rfl), Kd.V_nil _ _ _ _ _, Kd.V_nil _ _ _ _ _, bl HB⟩
            · rw [if_neg c53] at H
              have c53b0 : decide (0 < (wrap64 (t225 + a3))) = false := decide_eq_false c53
              clear c53
              simp only [Option.some.injEq, Prod.mk.injEq] at H
              obtain ⟨rfl, rfl, rfl, rfl, rfl, rfl, rfl, rfl⟩ := H
              have hnb81 := NB219_218.out
              have hnc81 := NB218_219.out
              have hnb82 := NB219_220.out
              have hnc82 := NB220_219.out
              have hnb83 := NB219_221.out
              have hnc83 := NB221_219.out
              obtain ⟨hcz84_0, hcz84_1, hcz84_2, hcz84_3⟩ := ce4 BK219
              obtain ⟨hfz84_0, hfz84_1, hfz84_2, hfz84_3⟩ := fr4 BK219
              have hnb85 := NB218_220.out
              have hnc85 := NB220_218.out
              have hnb86 := NB218_221.out
              have hnc86 := NB221_218.out
              obtain ⟨hcz87_0, hcz87_1, hcz87_2, hcz87_3⟩ := ce4 BK218
              obtain ⟨hfz87_0, hfz87_1, hfz87_2, hfz87_3⟩ := fr4 BK218
              try go_wp2_with (first | ((with_reducible refine gate_callee (f := 16) rfl ?_); refine goesL_ (some 36) rfl rfl Try.func16 (by kernel_rfl) rfl #[.agg #[.int .i64 a0_0, .int .i64 a0_1, .int .i64 a0_2, .int .i64 a0_3], .agg #[.int .i64 a1_0, .int .i64 a1_1, .slice A1_2 l1_2.length c1_2, .slice A1_3 l1_3.length c1_3], .int .i64 ji49] rfl (by (try simp only [List.map_toArray, List.map_cons, List.map_nil]); first | done | (simp only [hji49]; rfl) | rfl | (simp only [List.length_drop, List.length_take]; rfl)) ?_; (with_reducible refine (sandglassref11_Total.calls kj4 a0_0 a0_1 a0_2 a0_3 a1_0 a1_1 _ _ l1_2 _ _ l1_3 ji49 t225 _ ?side1 ?side2 ?side3 ?side4 A50.out).mono ?_); (case side1 => repeat (first | exact (Kd.V_reads' HO_220002.out).2.2 | (with_reducible refine Kd.C_alloc ?_ _) | (with_reducible refine Kd.C_drewN ?_ _) | (with_reducible refine Kd.C_drew ?_))); (case side2 => exact (Kd.V_reads' HO_220002.out).2.1); (case side3 => repeat (first | exact (Kd.V_reads' HO_220003.out).2.2 | (with_reducible refine Kd.C_alloc ?_ _) | (with_reducible refine Kd.C_drewN ?_ _) | (with_reducible refine Kd.C_drew ?_))); (case side4 => exact (Kd.V_reads' HO_220003.out).2.1); rintro e w88 ⟨rfl, hb⟩; refine ⟨_, rfl, ?_⟩; replace HO_220002 := vb HO_220002 hb; replace HO_220003 := vb HO_220003 hb; replace BK218 := Aside0.mk (blk_below (bo BK218) hb); replace BK219 := Aside0.mk (blk_below (bo BK219) hb); replace BK220 := Aside0.mk (blk_below (bo BK220) hb); replace BK221 := Aside0.mk (blk_below (bo BK221) hb); replace HB := Aside0.mk (below_step (bl HB) hb); (try clear hb); (try clear hb2); (try clear hk); (try clear hi)))
              replace HO_220002 := Aside0.mk (Kd.V_drew HO_220002.out)
              replace HO_220003 := Aside0.mk (Kd.V_drew HO_220003.out)
              replace BK218 := Aside0.mk (blk_drew BK218.out)
              replace BK219 := Aside0.mk (blk_drew BK219.out)
              replace BK220 := Aside0.mk (blk_drew BK220.out)
              replace BK221 := Aside0.mk (blk_drew BK221.out)
              replace HB := Aside0.mk (below_drew1 HB.out)
              refine start_ (n := 11) (S := fun w' => w'.cell? ⟨gb218, 0, none⟩ = some (.int .i64 a0_0) ∧ w'.cell? ⟨gb218, 1, none⟩ = some (.int .i64 a0_1) ∧ w'.cell? ⟨gb218, 2, none⟩ = some (.int .i64 a0_2) ∧ w'.cell? ⟨gb218, 3, none⟩ = some (.int .i64 a0_3)) (ds := []) #[false, false, false, false, false, false, false, false, false, false, false] (by kernel_rfl) rfl rfl ⟨(blk_cell BK218.out 0).trans rfl, (blk_cell BK218.out 1).trans rfl, (blk_cell BK218.out 2).trans rfl, (blk_cell BK218.out 3).trans rfl⟩ (fun hHeld => ?_); refine with_tabW sandglassref11_Ask.tab5 sandglassref11_Ask.bits5 (fun HT_ HW_ => ?_)
              generalize w88.drew = w89 at HO_220002 HO_220003 BK218 BK219 BK220 BK221 HB hHeld ⊢
              refine pureA 0 37 HT_ ?_
              refine pureA 2 39 HT_ ?_
              refine pureA 3 40 HT_ ?_
              refine pureA 8 45 HT_ ?_
              refine takeA 1 38 HT_ HW_ hHeld ?_
              refine takeA 4 41 HT_ HW_ hHeld ?_
              refine pureA 5 42 HT_ ?_
              refine pureA 6 43 HT_ ?_
              refine pureA 7 44 HT_ ?_
              refine pureA 9 46 HT_ ?_
              refine pureA 10 11 HT_ ?_
              refine done_ (done_of HT_.out (by kernel_rfl)) ?_
              obtain ⟨hcz90_0, hcz90_1, hcz90_2, hcz90_3⟩ := ce4 BK218
              obtain ⟨hfz90_0, hfz90_1, hfz90_2, hfz90_3⟩ := fr4 BK218
              try go_wp2_with (first | ((with_reducible refine gate_dst (N := 12) rfl ?_); refine box_event ?hg (N := 12) ?hd (cs := #[.bool false, .int .i64 0, .int .i64 0, .int .i64 0]) (t := 32) ?hr ?_; (case hd => rfl); (case hg => rfl); (case hr => first | (go_simp; done) | (go_simp; rfl)); intro gb226 hg w91 hbox hb; have BK226 := Aside0.mk (hbox); have GW226 := Aside0.mk ((by rw [hg]; exact (below_size (bl HB)) : w.heap.size ≤ gb226)); have GE226 := Aside0.mk ((by rw [hg]; exact (below_size (bl HB)) : w.heap.size ≤ gb226)); have NB218_226 := nb BK218 hg; have NB226_218 := bn BK218 hg; have NB219_226 := nb BK219 hg; have NB226_219 := bn BK219 hg; have NB220_226 := nb BK220 hg; have NB226_220 := bn BK220 hg; have NB221_226 := nb BK221 hg; have NB226_221 := bn BK221 hg; replace HO_220002 := ve HO_220002 hg hb; replace HO_220003 := ve HO_220003 hg hb; replace BK218 := Aside0.mk (blk_below (bo BK218) hb); replace BK219 := Aside0.mk (blk_below (bo BK219) hb); replace BK220 := Aside0.mk (blk_below (bo BK220) hb); replace BK221 := Aside0.mk (blk_below (bo BK221) hb); replace HB := Aside0.mk (below_step (bl HB) hb); clear hb hbox hg; have hnb92 := NB226_218.out; have hnc92 := NB218_226.out; have hnb93 := NB226_219.out; have hnc93 := NB219_226.out; have hnb94 := NB226_220.out; have hnc94 := NB220_226.out; have hnb95 := NB226_221.out; have hnc95 := NB221_226.out; obtain ⟨hcz96_0, hcz96_1, hcz96_2, hcz96_3⟩ := ce4 BK226; obtain ⟨hfz96_0, hfz96_1, hfz96_2, hfz96_3⟩ := fr4 BK226; obtain ⟨hcz97_0, hcz97_1, hcz97_2, hcz97_3⟩ := ce4 BK218; obtain ⟨hfz97_0, hfz97_1, hfz97_2, hfz97_3⟩ := fr4 BK218))
              have n0_ : Aside0 (Kd.V (Kd.int .i64) 3 (((((w91.setCell ⟨gb226, 0, none⟩ (.bool true)).setCell ⟨gb226, 1, none⟩ (.int .i64 0)).setCell ⟨gb226, 2, none⟩ (.int .i64 0)).setCell ⟨gb226, 3, none⟩ (.int .i64 0)).setCell ⟨gb226, 1, none⟩ (.int .i64 (wrap64 (a0_1 - (wrap64 (t225 + a3)))))) w.heap.size (fun k_ => ((P1_2_ k_ ∨ P1_3_ k_) ∨ w.heap.size ≤ k_) ∧ k_ ≠ gb218 ∧ k_ ≠ gb219 ∧ k_ ≠ gb220 ∧ k_ ≠ gb221 ∧ k_ ≠ gb226) (.slice A1_2 l1_2.length c1_2) l1_2) := ⟨by (with_reducible repeat (first | apply Kd.V_alloc | apply Kd.V_drewN | apply Kd.V_drew)); exact Kd.V_mono (Kd.V_far (p := ⟨gb226, 1, none⟩) (Kd.V_far (p := ⟨gb226, 3, none⟩) (Kd.V_far (p := ⟨gb226, 2, none⟩) (Kd.V_far (p := ⟨gb226, 1, none⟩) (Kd.V_far (p := ⟨gb226, 0, none⟩) (Kd.V_mono HO_220002.out (fun k_ hk => (⟨hk, hk.2⟩ : _ ∧ k_ ≠ gb226))) (fun _ hk => hk.2) (.bool true)) (fun _ hk => hk.2) (.int .i64 0)) (fun _ hk => hk.2) (.int .i64 0)) (fun _ hk => hk.2) (.int .i64 0)) (fun _ hk => hk.2) (.int .i64 (wrap64 (a0_1 - (wrap64 (t225 + a3)))))) (fun _ hk => ⟨hk.1.1.1, ⟨hk.1.1.2.1, ⟨hk.1.1.2.2.1, ⟨hk.1.1.2.2.2.1, ⟨hk.1.1.2.2.2.2, hk.1.2⟩⟩⟩⟩⟩)⟩
              have n1_ : Aside0 (Kd.V k53 53 (((((w91.setCell ⟨gb226, 0, none⟩ (.bool true)).setCell ⟨gb226, 1, none⟩ (.int .i64 0)).setCell ⟨gb226, 2, none⟩ (.int .i64 0)).setCell ⟨gb226, 3, none⟩ (.int .i64 0)).setCell ⟨gb226, 1, none⟩ (.int .i64 (wrap64 (a0_1 - (wrap64 (t225 + a3)))))) w.heap.size (fun k_ => ((P1_2_ k_ ∨ P1_3_ k_) ∨ w.heap.size ≤ k_) ∧ k_ ≠ gb218 ∧ k_ ≠ gb219 ∧ k_ ≠ gb220 ∧ k_ ≠ gb221 ∧ k_ ≠ gb226) (.slice A1_3 l1_3.length c1_3) l1_3) := ⟨by (with_reducible repeat (first | apply Kd.V_alloc | apply Kd.V_drewN | apply Kd.V_drew)); exact Kd.V_mono (Kd.V_far (p := ⟨gb226, 1, none⟩) (Kd.V_far (p := ⟨gb226, 3, none⟩) (Kd.V_far (p := ⟨gb226, 2, none⟩) (Kd.V_far (p := ⟨gb226, 1, none⟩) (Kd.V_far (p := ⟨gb226, 0, none⟩) (Kd.V_mono HO_220003.out (fun k_ hk => (⟨hk, hk.2⟩ : _ ∧ k_ ≠ gb226))) (fun _ hk => hk.2) (.bool true)) (fun _ hk => hk.2) (.int .i64 0)) (fun _ hk => hk.2) (.int .i64 0)) (fun _ hk => hk.2) (.int .i64 0)) (fun _ hk => hk.2) (.int .i64 (wrap64 (a0_1 - (wrap64 (t225 + a3)))))) (fun _ hk => ⟨hk.1.1.1, ⟨hk.1.1.2.1, ⟨hk.1.1.2.2.1, ⟨hk.1.1.2.2.2.1, ⟨hk.1.1.2.2.2.2, hk.1.2⟩⟩⟩⟩⟩)⟩
              have n2_ : Aside0 ((((((w91.setCell ⟨gb226, 0, none⟩ (.bool true)).setCell ⟨gb226, 1, none⟩ (.int .i64 0)).setCell ⟨gb226, 2, none⟩ (.int .i64 0)).setCell ⟨gb226, 3, none⟩ (.int .i64 0)).setCell ⟨gb226, 1, none⟩ (.int .i64 (wrap64 (a0_1 - (wrap64 (t225 + a3)))))).heap[gb218]? = some (.cells #[.int .i64 a0_0, .int .i64 a0_1, .int .i64 a0_2, .int .i64 a0_3] 23 (0, 0))) := ⟨by (with_reducible repeat (first | refine blk_drewN ?_ _ | refine blk_drew ?_ | refine blk_alloc ?_ _)); refine blk_far ?_ NB218_226.out _; (with_reducible repeat (first | refine blk_drewN ?_ _ | refine blk_drew ?_ | refine blk_alloc ?_ _)); refine blk_far ?_ NB218_226.out _; (with_reducible repeat (first | refine blk_drewN ?_ _ | refine blk_drew ?_ | refine blk_alloc ?_ _)); refine blk_far ?_ NB218_226.out _; (with_reducible repeat (first | refine blk_drewN ?_ _ | refine blk_drew ?_ | refine blk_alloc ?_ _)); refine blk_far ?_ NB218_226.out _; (with_reducible repeat (first | refine blk_drewN ?_ _ | refine blk_drew ?_ | refine blk_alloc ?_ _)); refine blk_far ?_ NB218_226.out _; (with_reducible repeat (first | refine blk_drewN ?_ _ | refine blk_drew ?_ | refine blk_alloc ?_ _)); exact BK218.out⟩
              have n3_ : Aside0 ((((((w91.setCell ⟨gb226, 0, none⟩ (.bool true)).setCell ⟨gb226, 1, none⟩ (.int .i64 0)).setCell ⟨gb226, 2, none⟩ (.int .i64 0)).setCell ⟨gb226, 3, none⟩ (.int .i64 0)).setCell ⟨gb226, 1, none⟩ (.int .i64 (wrap64 (a0_1 - (wrap64 (t225 + a3)))))).heap[gb219]? = some (.cells #[.int .i64 a1_0, .int .i64 a1_1, .slice A1_2 l1_2.length c1_2, .slice A1_3 l1_3.length c1_3] 27 (0, 0))) := ⟨by (with_reducible repeat (first | refine blk_drewN ?_ _ | refine blk_drew ?_ | refine blk_alloc ?_ _)); refine blk_far ?_ NB219_226.out _; (with_reducible repeat (first | refine blk_drewN ?_ _ | refine blk_drew ?_ | refine blk_alloc ?_ _)); refine blk_far ?_ NB219_226.out _; (with_reducible repeat (first | refine blk_drewN ?_ _ | refine blk_drew ?_ | refine blk_alloc ?_ _)); refine blk_far ?_ NB219_226.out _; (with_reducible repeat (first | refine blk_drewN ?_ _ | refine blk_drew ?_ | refine blk_alloc ?_ _)); refine blk_far ?_ NB219_226.out _; (with_reducible repeat (first | refine blk_drewN ?_ _ | refine blk_drew ?_ | refine blk_alloc ?_ _)); refine blk_far ?_ NB219_226.out _; (with_reducible repeat (first | refine blk_drewN ?_ _ | refine blk_drew ?_ | refine blk_alloc ?_ _)); exact BK219.out⟩
              have n4_ : Aside0 ((((((w91.setCell ⟨gb226, 0, none⟩ (.bool true)).setCell ⟨gb226, 1, none⟩ (.int .i64 0)).setCell ⟨gb226, 2, none⟩ (.int .i64 0)).setCell ⟨gb226, 3, none⟩ (.int .i64 0)).setCell ⟨gb226, 1, none⟩ (.int .i64 (wrap64 (a0_1 - (wrap64 (t225 + a3)))))).heap[gb220]? = some (.cells #[.int .i64 0, .int .i64 0, .slice none 0 0, .slice none 0 0] 27 (0, 0))) := ⟨by (with_reducible repeat (first | refine blk_drewN ?_ _ | refine blk_drew ?_ | refine blk_alloc ?_ _)); refine blk_far ?_ NB220_226.out _; (with_reducible repeat (first | refine blk_drewN ?_ _ | refine blk_drew ?_ | refine blk_alloc ?_ _)); refine blk_far ?_ NB220_226.out _; (with_reducible repeat (first | refine blk_drewN ?_ _ | refine blk_drew ?_ | refine blk_alloc ?_ _)); refine blk_far ?_ NB220_226.out _; (with_reducible repeat (first | refine blk_drewN ?_ _ | refine blk_drew ?_ | refine blk_alloc ?_ _)); refine blk_far ?_ NB220_226.out _; (with_reducible repeat (first | refine blk_drewN ?_ _ | refine blk_drew ?_ | refine blk_alloc ?_ _)); refine blk_far ?_ NB220_226.out _; (with_reducible repeat (first | refine blk_drewN ?_ _ | refine blk_drew ?_ | refine blk_alloc ?_ _)); exact BK220.out⟩
              have n5_ : Aside0 ((((((w91.setCell ⟨gb226, 0, none⟩ (.bool true)).setCell ⟨gb226, 1, none⟩ (.int .i64 0)).setCell ⟨gb226, 2, none⟩ (.int .i64 0)).setCell ⟨gb226, 3, none⟩ (.int .i64 0)).setCell ⟨gb226, 1, none⟩ (.int .i64 (wrap64 (a0_1 - (wrap64 (t225 + a3)))))).heap[gb221]? = some (.cells #[.bool false, .int .i64 0, .int .i64 0, .int .i64 0] 32 (0, 0))) := ⟨by (with_reducible repeat (first | refine blk_drewN ?_ _ | refine blk_drew ?_ | refine blk_alloc ?_ _)); refine blk_far ?_ NB221_226.out _; (with_reducible repeat (first | refine blk_drewN ?_ _ | refine blk_drew ?_ | refine blk_alloc ?_ _)); refine blk_far ?_ NB221_226.out _; (with_reducible repeat (first | refine blk_drewN ?_ _ | refine blk_drew ?_ | refine blk_alloc ?_ _)); refine blk_far ?_ NB221_226.out _; (with_reducible repeat (first | refine blk_drewN ?_ _ | refine blk_drew ?_ | refine blk_alloc ?_ _)); refine blk_far ?_ NB221_226.out _; (with_reducible repeat (first | refine blk_drewN ?_ _ | refine blk_drew ?_ | refine blk_alloc ?_ _)); refine blk_far ?_ NB221_226.out _; (with_reducible repeat (first | refine blk_drewN ?_ _ | refine blk_drew ?_ | refine blk_alloc ?_ _)); exact BK221.out⟩
              have n6_ : Aside0 ((((((w91.setCell ⟨gb226, 0, none⟩ (.bool true)).setCell ⟨gb226, 1, none⟩ (.int .i64 0)).setCell ⟨gb226, 2, none⟩ (.int .i64 0)).setCell ⟨gb226, 3, none⟩ (.int .i64 0)).setCell ⟨gb226, 1, none⟩ (.int .i64 (wrap64 (a0_1 - (wrap64 (t225 + a3)))))).heap[gb226]? = some (.cells #[.bool true, .int .i64 (wrap64 (a0_1 - (wrap64 (t225 + a3)))), .int .i64 0, .int .i64 0] 32 (0, 0))) := ⟨by (with_reducible repeat (first | refine blk_drewN ?_ _ | refine blk_drew ?_ | refine blk_alloc ?_ _)); refine blk_put (cs := #[.bool true, .int .i64 0, .int .i64 0, .int .i64 0]) ?_ 1 _ rfl; (with_reducible repeat (first | refine blk_drewN ?_ _ | refine blk_drew ?_ | refine blk_alloc ?_ _)); refine blk_put (cs := #[.bool true, .int .i64 0, .int .i64 0, .int .i64 0]) ?_ 3 _ rfl; (with_reducible repeat (first | refine blk_drewN ?_ _ | refine blk_drew ?_ | refine blk_alloc ?_ _)); refine blk_put (cs := #[.bool true, .int .i64 0, .int .i64 0, .int .i64 0]) ?_ 2 _ rfl; (with_reducible repeat (first | refine blk_drewN ?_ _ | refine blk_drew ?_ | refine blk_alloc ?_ _)); refine blk_put (cs := #[.bool true, .int .i64 0, .int .i64 0, .int .i64 0]) ?_ 1 _ rfl; (with_reducible repeat (first | refine blk_drewN ?_ _ | refine blk_drew ?_ | refine blk_alloc ?_ _)); refine blk_put (cs := #[.bool false, .int .i64 0, .int .i64 0, .int .i64 0]) ?_ 0 _ rfl; (with_reducible repeat (first | refine blk_drewN ?_ _ | refine blk_drew ?_ | refine blk_alloc ?_ _)); exact BK226.out⟩
              have n7_ : Aside0 (Below w.heap.size w (((((w91.setCell ⟨gb226, 0, none⟩ (.bool true)).setCell ⟨gb226, 1, none⟩ (.int .i64 0)).setCell ⟨gb226, 2, none⟩ (.int .i64 0)).setCell ⟨gb226, 3, none⟩ (.int .i64 0)).setCell ⟨gb226, 1, none⟩ (.int .i64 (wrap64 (a0_1 - (wrap64 (t225 + a3))))))) := ⟨bl HB⟩
              (try clear HO_220002)
              (try clear HO_220003)
              (try clear BK218)
              (try clear BK219)
              (try clear BK220)
              (try clear BK221)
              (try clear BK226)
              (try clear HB)
              generalize (((((w91.setCell ⟨gb226, 0, none⟩ (.bool true)).setCell ⟨gb226, 1, none⟩ (.int .i64 0)).setCell ⟨gb226, 2, none⟩ (.int .i64 0)).setCell ⟨gb226, 3, none⟩ (.int .i64 0)).setCell ⟨gb226, 1, none⟩ (.int .i64 (wrap64 (a0_1 - (wrap64 (t225 + a3)))))) = w98 at n0_ n1_ n2_ n3_ n4_ n5_ n6_ n7_ ⊢
              have HO_220002 := n0_
              have HO_220003 := n1_
              have BK218 := n2_
              have BK219 := n3_
              have BK220 := n4_
              have BK221 := n5_
              have BK226 := n6_
              have HB := n7_
              clear n0_ n1_ n2_ n3_ n4_ n5_ n6_ n7_
              replace HO_220002 := Aside0.mk (Kd.V_drew HO_220002.out)
              replace HO_220003 := Aside0.mk (Kd.V_drew HO_220003.out)
              replace BK218 := Aside0.mk (blk_drew BK218.out)
              replace BK219 := Aside0.mk (blk_drew BK219.out)
              replace BK220 := Aside0.mk (blk_drew BK220.out)
              replace BK221 := Aside0.mk (blk_drew BK221.out)
              replace BK226 := Aside0.mk (blk_drew BK226.out)
              replace HB := Aside0.mk (below_drew1 HB.out)
              refine start_ (n := 6) (S := fun w' => w'.cell? ⟨gb226, 0, none⟩ = some (.bool true) ∧ w'.cell? ⟨gb226, 1, none⟩ = some (.int .i64 (wrap64 (a0_1 - (wrap64 (t225 + a3))))) ∧ w'.cell? ⟨gb226, 2, none⟩ = some (.int .i64 0) ∧ w'.cell? ⟨gb226, 3, none⟩ = some (.int .i64 0)) (ds := []) #[false, false, false, false, false, false] (by kernel_rfl) rfl rfl ⟨(blk_cell BK226.out 0).trans rfl, (blk_cell BK226.out 1).trans rfl, (blk_cell BK226.out 2).trans rfl, (blk_cell BK226.out 3).trans rfl⟩ (fun hHeld => ?_)
              generalize w98.drew = w99 at HO_220002 HO_220003 BK218 BK219 BK220 BK221 BK226 HB hHeld ⊢
              refine pureB 0 75 ?_
              refine pureB 1 76 ?_
              refine pureB 2 77 ?_
              refine takeB' 3 78 hHeld ?_
              refine one_ (i := 4) (N := none) #[true, true, true, true, true, false] rfl rfl (by kernel_rfl) (by decide) (fun K hK => ?_)
              have hs100 : w99.cell? ⟨gb220, 0, none⟩ = some (.int .i64 0) := (blk_cell BK220.out 0).trans rfl
              have hfs100 := blk_frozen BK220.out 0
              have hns100_0 := NB218_220.out
              have hns100_1 := NB219_220.out
              have hns100_3 := NB221_220.out
              have hns100_4 := NB226_220.out
              have hms100_0 := NB220_218.out
              have hms100_1 := NB220_219.out
              have hms100_3 := NB220_221.out
              have hms100_4 := NB220_226.out
              have hs101 : w99.cell? ⟨gb220, 1, none⟩ = some (.int .i64 0) := (blk_cell BK220.out 1).trans rfl
              have hfs101 := blk_frozen BK220.out 1
              have hns101_0 := NB218_220.out
              have hns101_1 := NB219_220.out
              have hns101_3 := NB221_220.out
              have hns101_4 := NB226_220.out
              have hms101_0 := NB220_218.out
              have hms101_1 := NB220_219.out
              have hms101_3 := NB220_221.out
              have hms101_4 := NB220_226.out
              have hs102 : w99.cell? ⟨gb220, 2, none⟩ = some (.slice none 0 0) := (blk_cell BK220.out 2).trans rfl
              have hfs102 := blk_frozen BK220.out 2
              have hns102_0 := NB218_220.out
              have hns102_1 := NB219_220.out
              have hns102_3 := NB221_220.out
              have hns102_4 := NB226_220.out
              have hms102_0 := NB220_218.out
              have hms102_1 := NB220_219.out
              have hms102_3 := NB220_221.out
              have hms102_4 := NB220_226.out
              have hs103 : w99.cell? ⟨gb220, 3, none⟩ = some (.slice none 0 0) := (blk_cell BK220.out 3).trans rfl
              have hfs103 := blk_frozen BK220.out 3
              have hns103_0 := NB218_220.out
              have hns103_1 := NB219_220.out
              have hns103_3 := NB221_220.out
              have hns103_4 := NB226_220.out
              have hms103_0 := NB220_218.out
              have hms103_1 := NB220_219.out
              have hms103_3 := NB220_221.out
              have hms103_4 := NB220_226.out
              refine skip_ (w1 := ?_) (by rfl) rfl ?_ ?_
              rotate_left
              · go_simp
                rfl
              refine hK.out _ _ ⟨((cell_far (p := ⟨gb220, _, none⟩) NB226_220.out _).trans (((cell_far (p := ⟨gb220, _, none⟩) NB226_220.out _).trans (((cell_far (p := ⟨gb220, _, none⟩) NB226_220.out _).trans (((cell_far (p := ⟨gb220, _, none⟩) NB226_220.out _).trans (hHeld.1)))))))), ((cell_far (p := ⟨gb220, _, none⟩) NB226_220.out _).trans (((cell_far (p := ⟨gb220, _, none⟩) NB226_220.out _).trans (((cell_far (p := ⟨gb220, _, none⟩) NB226_220.out _).trans (((cell_far (p := ⟨gb220, _, none⟩) NB226_220.out _).trans (hHeld.2.1)))))))), ((cell_far (p := ⟨gb220, _, none⟩) NB226_220.out _).trans (((cell_far (p := ⟨gb220, _, none⟩) NB226_220.out _).trans (((cell_far (p := ⟨gb220, _, none⟩) NB226_220.out _).trans (((cell_far (p := ⟨gb220, _, none⟩) NB226_220.out _).trans (hHeld.2.2.1)))))))), ((cell_far (p := ⟨gb220, _, none⟩) NB226_220.out _).trans (((cell_far (p := ⟨gb220, _, none⟩) NB226_220.out _).trans (((cell_far (p := ⟨gb220, _, none⟩) NB226_220.out _).trans (((cell_far (p := ⟨gb220, _, none⟩) NB226_220.out _).trans (hHeld.2.2.2))))))))⟩ (fun hHeld => ?_)
              clear hK K
              refine one_ (i := 5) (N := none) #[true, true, true, true, true, true] rfl rfl (by kernel_rfl) (by decide) (fun K hK => ?_)
              have hs104 : w99.cell? ⟨gb221, 0, none⟩ = some (.bool false) := (blk_cell BK221.out 0).trans rfl
              have hfs104 := blk_frozen BK221.out 0
              have hns104_0 := NB218_221.out
              have hns104_1 := NB219_221.out
              have hns104_2 := NB220_221.out
              have hns104_4 := NB226_221.out
              have hms104_0 := NB221_218.out
              have hms104_1 := NB221_219.out
              have hms104_2 := NB221_220.out
              have hms104_4 := NB221_226.out
              have hs105 : w99.cell? ⟨gb221, 1, none⟩ = some (.int .i64 0) := (blk_cell BK221.out 1).trans rfl
              have hfs105 := blk_frozen BK221.out 1
              have hns105_0 := NB218_221.out
              have hns105_1 := NB219_221.out
              have hns105_2 := NB220_221.out
              have hns105_4 := NB226_221.out
              have hms105_0 := NB221_218.out
              have hms105_1 := NB221_219.out
              have hms105_2 := NB221_220.out
              have hms105_4 := NB221_226.out
              have hs106 : w99.cell? ⟨gb221, 2, none⟩ = some (.int .i64 0) := (blk_cell BK221.out 2).trans rfl
              have hfs106 := blk_frozen BK221.out 2
              have hns106_0 := NB218_221.out
              have hns106_1 := NB219_221.out
              have hns106_2 := NB220_221.out
              have hns106_4 := NB226_221.out
              have hms106_0 := NB221_218.out
              have hms106_1 := NB221_219.out
              have hms106_2 := NB221_220.out
              have hms106_4 := NB221_226.out
              have hs107 : w99.cell? ⟨gb221, 3, none⟩ = some (.int .i64 0) := (blk_cell BK221.out 3).trans rfl
              have hfs107 := blk_frozen BK221.out 3
              have hns107_0 := NB218_221.out
              have hns107_1 := NB219_221.out
              have hns107_2 := NB220_221.out
              have hns107_4 := NB226_221.out
              have hms107_0 := NB221_218.out
              have hms107_1 := NB221_219.out
              have hms107_2 := NB221_220.out
              have hms107_4 := NB221_226.out
              refine skip_ (w1 := ?_) (by rfl) rfl ?_ ?_
              rotate_left
              · go_simp
                rfl
              refine hK.out _ _ ⟨((cell_far (p := ⟨gb221, _, none⟩) NB226_221.out _).trans (((cell_far (p := ⟨gb221, _, none⟩) NB226_221.out _).trans (((cell_far (p := ⟨gb221, _, none⟩) NB226_221.out _).trans (((cell_far (p := ⟨gb221, _, none⟩) NB226_221.out _).trans (hHeld.1)))))))), ((cell_far (p := ⟨gb221, _, none⟩) NB226_221.out _).trans (((cell_far (p := ⟨gb221, _, none⟩) NB226_221.out _).trans (((cell_far (p := ⟨gb221, _, none⟩) NB226_221.out _).trans (((cell_far (p := ⟨gb221, _, none⟩) NB226_221.out _).trans (hHeld.2.1)))))))), ((cell_far (p := ⟨gb221, _, none⟩) NB226_221.out _).trans (((cell_far (p := ⟨gb221, _, none⟩) NB226_221.out _).trans (((cell_far (p := ⟨gb221, _, none⟩) NB226_221.out _).trans (((cell_far (p := ⟨gb221, _, none⟩) NB226_221.out _).trans (hHeld.2.2.1)))))))), ((cell_far (p := ⟨gb221, _, none⟩) NB226_221.out _).trans (((cell_far (p := ⟨gb221, _, none⟩) NB226_221.out _).trans (((cell_far (p := ⟨gb221, _, none⟩) NB226_221.out _).trans (((cell_far (p := ⟨gb221, _, none⟩) NB226_221.out _).trans (hHeld.2.2.2))))))))⟩ (fun hHeld => ?_)
              clear hK K
              refine done_ (by kernel_rfl) ?_
              try go_wp2
              refine bodyPost_ret (results_cc rfl _ _ gb220 gb221 27 32 #[.int .i64 ji49, .int .i64 (wrap64 (t225 + a3)), .slice none 0 0, .slice none 0 0] #[.bool true, .int .i64 (wrap64 (a0_1 - (wrap64 (t225 + a3)))), .int .i64 0, .int .i64 0] (0, 0) (0, 0) _ _ rfl (by (with_reducible repeat (first | refine blk_drewN ?_ _ | refine blk_drew ?_ | refine blk_alloc ?_ _)); refine blk_far ?_ NB220_221.out _; (with_reducible repeat (first | refine blk_drewN ?_ _ | refine blk_drew ?_ | refine blk_alloc ?_ _)); refine blk_far ?_ NB220_221.out _; (with_reducible repeat (first | refine blk_drewN ?_ _ | refine blk_drew ?_ | refine blk_alloc ?_ _)); refine blk_far ?_ NB220_221.out _; (with_reducible repeat (first | refine blk_drewN ?_ _ | refine blk_drew ?_ | refine blk_alloc ?_ _)); refine blk_far ?_ NB220_221.out _; (with_reducible repeat (first | refine blk_drewN ?_ _ | refine blk_drew ?_ | refine blk_alloc ?_ _)); refine blk_put (cs := #[.int .i64 ji49, .int .i64 (wrap64 (t225 + a3)), .slice none 0 0, .slice none 0 0]) ?_ 3 _ rfl; (with_reducible repeat (first | refine blk_drewN ?_ _ | refine blk_drew ?_ | refine blk_alloc ?_ _)); refine blk_put (cs := #[.int .i64 ji49, .int .i64 (wrap64 (t225 + a3)), .slice none 0 0, .slice none 0 0]) ?_ 2 _ rfl; (with_reducible repeat (first | refine blk_drewN ?_ _ | refine blk_drew ?_ | refine blk_alloc ?_ _)); refine blk_put (cs := #[.int .i64 ji49, .int .i64 0, .slice none 0 0, .slice none 0 0]) ?_ 1 _ rfl; (with_reducible repeat (first | refine blk_drewN ?_ _ | refine blk_drew ?_ | refine blk_alloc ?_ _)); refine blk_put (cs := #[.int .i64 0, .int .i64 0, .slice none 0 0, .slice none 0 0]) ?_ 0 _ rfl; (with_reducible repeat (first | refine blk_drewN ?_ _ | refine blk_drew ?_ | refine blk_alloc ?_ _)); exact BK220.out) Try.underlying27 rfl (by kernel_rfl) rfl (by (with_reducible repeat (first | refine blk_drewN ?_ _ | refine blk_drew ?_ | refine blk_alloc ?_ _)); refine blk_put (cs := #[.bool true, .int .i64 (wrap64 (a0_1 - (wrap64 (t225 + a3)))), .int .i64 0, .int .i64 0]) ?_ 3 _ rfl; (with_reducible repeat (first | refine blk_drewN ?_ _ | refine blk_drew ?_ | refine blk_alloc ?_ _)); refine blk_put (cs := #[.bool true, .int .i64 (wrap64 (a0_1 - (wrap64 (t225 + a3)))), .int .i64 0, .int .i64 0]) ?_ 2 _ rfl; (with_reducible repeat (first | refine blk_drewN ?_ _ | refine blk_drew ?_ | refine blk_alloc ?_ _)); refine blk_put (cs := #[.bool true, .int .i64 0, .int .i64 0, .int .i64 0]) ?_ 1 _ rfl; (with_reducible repeat (first | refine blk_drewN ?_ _ | refine blk_drew ?_ | refine blk_alloc ?_ _)); refine blk_put (cs := #[.bool false, .int .i64 0, .int .i64 0, .int .i64 0]) ?_ 0 _ rfl; (with_reducible repeat (first | refine blk_drewN ?_ _ | refine blk_drew ?_ | refine blk_alloc ?_ _)); refine blk_far ?_ NB221_220.out _; (with_reducible repeat (first | refine blk_drewN ?_ _ | refine blk_drew ?_ | refine blk_alloc ?_ _)); refine blk_far ?_ NB221_220.out _; (with_reducible repeat (first | refine blk_drewN ?_ _ | refine blk_drew ?_ | refine blk_alloc ?_ _)); refine blk_far ?_ NB221_220.out _; (with_reducible repeat (first | refine blk_drewN ?_ _ | refine blk_drew ?_ | refine blk_alloc ?_ _)); refine blk_far ?_ NB221_220.out _; (with_reducible repeat (first | refine blk_drewN ?_ _ | refine blk_drew ?_ | refine blk_alloc ?_ _)); exact BK221.out) Try.underlying32 rfl (by kernel_rfl)) rfl ?_
              exact ⟨_, _, by first | (with_reducible rfl) | (simp only [← hji49]; with_reducible rfl) | (simp only [← hji49]; done) | rfl | (simp [errW_none, errW_some] <;> rfl) | (simp only [← hji49]; first | rfl | (simp [errW_none, errW_some] <;> rfl)) | (simp [*, errW_none, errW_some] <;> rfl), Kd.V_nil _ _ _ _ _, Kd.V_nil _ _ _ _ _, bl HB⟩
          · rw [if_neg c52] at H
            have c52b0 : decide ((wrap64 (t225 + a3)) ≤ a0_1) = false := decide_eq_false c52
            clear c52
            by_cases c108 : a3 > a0_1
            · rw [if_pos c108] at H
              have c108b0 : decide (a0_1 < a3) = true := decide_eq_true c108
              clear c108
              by_cases c109 : t225 > 0
              · rw [if_pos c109] at H
                have c109b0 : decide (0 < t225) = true := decide_eq_true c109
                clear c109
                simp only [Option.some.injEq, Prod.mk.injEq] at H
                obtain ⟨rfl, rfl, rfl, rfl, rfl, rfl, rfl, rfl⟩ := H
                have hnb110 := NB219_218.out
                have hnc110 := NB218_219.out
                have hnb111 := NB219_220.out
                have hnc111 := NB220_219.out
                have hnb112 := NB219_221.out
                have hnc112 := NB221_219.out
                obtain ⟨hcz113_0, hcz113_1, hcz113_2, hcz113_3⟩ := ce4 BK219
                obtain ⟨hfz113_0, hfz113_1, hfz113_2, hfz113_3⟩ := fr4 BK219
                have hnb114 := NB218_220.out
                have hnc114 := NB220_218.out
                have hnb115 := NB218_221.out
                have hnc115 := NB221_218.out
                obtain ⟨hcz116_0, hcz116_1, hcz116_2, hcz116_3⟩ := ce4 BK218
                obtain ⟨hfz116_0, hfz116_1, hfz116_2, hfz116_3⟩ := fr4 BK218
                try go_wp2_with (first | ((with_reducible refine gate_callee (f := 16) rfl ?_); refine goesL_ (some 36) rfl rfl Try.func16 (by kernel_rfl) rfl #[.agg #[.int .i64 a0_0, .int .i64 a0_1, .int .i64 a0_2, .int .i64 a0_3], .agg #[.int .i64 a1_0, .int .i64 a1_1, .slice A1_2 l1_2.length c1_2, .slice A1_3 l1_3.length c1_3], .int .i64 ji49] rfl (by (try simp only [List.map_toArray, List.map_cons, List.map_nil]); first | done | (simp only [hji49]; rfl) | rfl | (simp only [List.length_drop, List.length_take]; rfl)) ?_; (with_reducible refine (sandglassref11_Total.calls kj4 a0_0 a0_1 a0_2 a0_3 a1_0 a1_1 _ _ l1_2 _ _ l1_3 ji49 t225 _ ?side1 ?side2 ?side3 ?side4 A50.out).mono ?_); (case side1 => repeat (first | exact (Kd.V_reads' HO_220002.out).2.2 | (with_reducible refine Kd.C_alloc ?_ _) | (with_reducible refine Kd.C_drewN ?_ _) | (with_reducible refine Kd.C_drew ?_))); (case side2 => exact (Kd.V_reads' HO_220002.out).2.1); (case side3 => repeat (first | exact (Kd.V_reads' HO_220003.out).2.2 | (with_reducible refine Kd.C_alloc ?_ _) | (with_reducible refine Kd.C_drewN ?_ _) | (with_reducible refine Kd.C_drew ?_))); (case side4 => exact (Kd.V_reads' HO_220003.out).2.1); rintro e w117 ⟨rfl, hb⟩; refine ⟨_, rfl, ?_⟩; replace HO_220002 := vb HO_220002 hb; replace HO_220003 := vb HO_220003 hb; replace BK218 := Aside0.mk (blk_below (bo BK218) hb); replace BK219 := Aside0.mk (blk_below (bo BK219) hb); replace BK220 := Aside0.mk (blk_below (bo BK220) hb); replace BK221 := Aside0.mk (blk_below (bo BK221) hb); replace HB := Aside0.mk (below_step (bl HB) hb); (try clear hb); (try clear hb2); (try clear hk); (try clear hi)))
                replace HO_220002 := Aside0.mk (Kd.V_drew HO_220002.out)
                replace HO_220003 := Aside0.mk (Kd.V_drew HO_220003.out)
                replace BK218 := Aside0.mk (blk_drew BK218.out)
                replace BK219 := Aside0.mk (blk_drew BK219.out)
                replace BK220 := Aside0.mk (blk_drew BK220.out)
                replace BK221 := Aside0.mk (blk_drew BK221.out)
                replace HB := Aside0.mk (below_drew1 HB.out)
                refine start_ (n := 11) (S := fun w' => w'.cell? ⟨gb218, 0, none⟩ = some (.int .i64 a0_0) ∧ w'.cell? ⟨gb218, 1, none⟩ = some (.int .i64 a0_1) ∧ w'.cell? ⟨gb218, 2, none⟩ = some (.int .i64 a0_2) ∧ w'.cell? ⟨gb218, 3, none⟩ = some (.int .i64 a0_3)) (ds := []) #[false, false, false, false, false, false, false, false, false, false, false] (by kernel_rfl) rfl rfl ⟨(blk_cell BK218.out 0).trans rfl, (blk_cell BK218.out 1).trans rfl, (blk_cell BK218.out 2).trans rfl, (blk_cell BK218.out 3).trans rfl⟩ (fun hHeld => ?_); refine with_tabW sandglassref11_Ask.tab5 sandglassref11_Ask.bits5 (fun HT_ HW_ => ?_)
                generalize w117.drew = w118 at HO_220002 HO_220003 BK218 BK219 BK220 BK221 HB hHeld ⊢
                refine pureA 0 37 HT_ ?_
                refine pureA 2 39 HT_ ?_
                refine pureA 3 40 HT_ ?_
                refine pureA 8 45 HT_ ?_
                refine takeA 1 38 HT_ HW_ hHeld ?_
                refine takeA 4 41 HT_ HW_ hHeld ?_
                refine pureA 5 42 HT_ ?_
                refine pureA 6 43 HT_ ?_
                refine pureA 7 44 HT_ ?_
                refine pureA 9 46 HT_ ?_
                refine pureA 10 11 HT_ ?_
                refine done_ (done_of HT_.out (by kernel_rfl)) ?_
                obtain ⟨hcz119_0, hcz119_1, hcz119_2, hcz119_3⟩ := ce4 BK218
                obtain ⟨hfz119_0, hfz119_1, hfz119_2, hfz119_3⟩ := fr4 BK218
                try go_wp2_with (first | ((with_reducible refine gate_dst (N := 12) rfl ?_); refine box_event ?hg (N := 12) ?hd (cs := #[.bool false, .int .i64 0, .int .i64 0, .int .i64 0]) (t := 32) ?hr ?_; (case hd => rfl); (case hg => rfl); (case hr => first | (go_simp; done) | (go_simp; rfl)); intro gb226 hg w120 hbox hb; have BK226 := Aside0.mk (hbox); have GW226 := Aside0.mk ((by rw [hg]; exact (below_size (bl HB)) : w.heap.size ≤ gb226)); have GE226 := Aside0.mk ((by rw [hg]; exact (below_size (bl HB)) : w.heap.size ≤ gb226)); have NB218_226 := nb BK218 hg; have NB226_218 := bn BK218 hg; have NB219_226 := nb BK219 hg; have NB226_219 := bn BK219 hg; have NB220_226 := nb BK220 hg; have NB226_220 := bn BK220 hg; have NB221_226 := nb BK221 hg; have NB226_221 := bn BK221 hg; replace HO_220002 := ve HO_220002 hg hb; replace HO_220003 := ve HO_220003 hg hb; replace BK218 := Aside0.mk (blk_below (bo BK218) hb); replace BK219 := Aside0.mk (blk_below (bo BK219) hb); replace BK220 := Aside0.mk (blk_below (bo BK220) hb); replace BK221 := Aside0.mk (blk_below (bo BK221) hb); replace HB := Aside0.mk (below_step (bl HB) hb); clear hb hbox hg; have hnb121 := NB226_218.out; have hnc121 := NB218_226.out; have hnb122 := NB226_219.out; have hnc122 := NB219_226.out; have hnb123 := NB226_220.out; have hnc123 := NB220_226.out; have hnb124 := NB226_221.out; have hnc124 := NB221_226.out; obtain ⟨hcz125_0, hcz125_1, hcz125_2, hcz125_3⟩ := ce4 BK226; obtain ⟨hfz125_0, hfz125_1, hfz125_2, hfz125_3⟩ := fr4 BK226; obtain ⟨hcz126_0, hcz126_1, hcz126_2, hcz126_3⟩ := ce4 BK218; obtain ⟨hfz126_0, hfz126_1, hfz126_2, hfz126_3⟩ := fr4 BK218))
                have n0_ : Aside0 (Kd.V (Kd.int .i64) 3 (((((((w120.setCell ⟨gb226, 0, none⟩ (.bool false)).setCell ⟨gb226, 1, none⟩ (.int .i64 0)).setCell ⟨gb226, 2, none⟩ (.int .i64 0)).setCell ⟨gb226, 3, none⟩ (.int .i64 0)).setCell ⟨gb226, 2, none⟩ (.int .i64 2199023255552)).setCell ⟨gb226, 1, none⟩ (.int .i64 (wrap64 (a0_1 - t225)))).setCell ⟨gb226, 3, none⟩ (.int .i64 (wrap64 ((wrap64 (a0_2 * (wrap64 ((wrap64 (Int.tdiv (ji49) a0_2)) + 1)))) - (ji49))))) w.heap.size (fun k_ => ((P1_2_ k_ ∨ P1_3_ k_) ∨ w.heap.size ≤ k_) ∧ k_ ≠ gb218 ∧ k_ ≠ gb219 ∧ k_ ≠ gb220 ∧ k_ ≠ gb221 ∧ k_ ≠ gb226) (.slice A1_2 l1_2.length c1_2) l1_2) := ⟨by (with_reducible repeat (first | apply Kd.V_alloc | apply Kd.V_drewN | apply Kd.V_drew)); exact Kd.V_mono (Kd.V_far (p := ⟨gb226, 3, none⟩) (Kd.V_far (p := ⟨gb226, 1, none⟩) (Kd.V_far (p := ⟨gb226, 2, none⟩) (Kd.V_far (p := ⟨gb226, 3, none⟩) (Kd.V_far (p := ⟨gb226, 2, none⟩) (Kd.V_far (p := ⟨gb226, 1, none⟩) (Kd.V_far (p := ⟨gb226, 0, none⟩) (Kd.V_mono HO_220002.out (fun k_ hk => (⟨hk, hk.2⟩ : _ ∧ k_ ≠ gb226))) (fun _ hk => hk.2) (.bool false)) (fun _ hk => hk.2) (.int .i64 0)) (fun _ hk => hk.2) (.int .i64 0)) (fun _ hk => hk.2) (.int .i64 0)) (fun _ hk => hk.2) (.int .i64 2199023255552)) (fun _ hk => hk.2) (.int .i64 (wrap64 (a0_1 - t225)))) (fun _ hk => hk.2) (.int .i64 (wrap64 ((wrap64 (a0_2 * (wrap64 ((wrap64 (Int.tdiv (ji49) a0_2)) + 1)))) - (ji49))))) (fun _ hk => ⟨hk.1.1.1, ⟨hk.1.1.2.1, ⟨hk.1.1.2.2.1, ⟨hk.1.1.2.2.2.1, ⟨hk.1.1.2.2.2.2, hk.1.2⟩⟩⟩⟩⟩)⟩
                have n1_ : Aside0 (Kd.V k53 53 (((((((w120.setCell ⟨gb226, 0, none⟩ (.bool false)).setCell ⟨gb226, 1, none⟩ (.int .i64 0)).setCell ⟨gb226, 2, none⟩ (.int .i64 0)).setCell ⟨gb226, 3, none⟩ (.int .i64 0)).setCell ⟨gb226, 2, none⟩ (.int .i64 2199023255552)).setCell ⟨gb226, 1, none⟩ (.int .i64 (wrap64 (a0_1 - t225)))).setCell ⟨gb226, 3, none⟩ (.int .i64 (wrap64 ((wrap64 (a0_2 * (wrap64 ((wrap64 (Int.tdiv (ji49) a0_2)) + 1)))) - (ji49))))) w.heap.size (fun k_ => ((P1_2_ k_ ∨ P1_3_ k_) ∨ w.heap.size ≤ k_) ∧ k_ ≠ gb218 ∧ k_ ≠ gb219 ∧ k_ ≠ gb220 ∧ k_ ≠ gb221 ∧ k_ ≠ gb226) (.slice A1_3 l1_3.length c1_3) l1_3) := ⟨by (with_reducible repeat (first | apply Kd.V_alloc | apply Kd.V_drewN | apply Kd.V_drew)); exact Kd.V_mono (Kd.V_far (p := ⟨gb226, 3, none⟩) (Kd.V_far (p := ⟨gb226, 1, none⟩) (Kd.V_far (p := ⟨gb226, 2, none⟩) (Kd.V_far (p := ⟨gb226, 3, none⟩) (Kd.V_far (p := ⟨gb226, 2, none⟩) (Kd.V_far (p := ⟨gb226, 1, none⟩) (Kd.V_far (p := ⟨gb226, 0, none⟩) (Kd.V_mono HO_220003.out (fun k_ hk => (⟨hk, hk.2⟩ : _ ∧ k_ ≠ gb226))) (fun _ hk => hk.2) (.bool false)) (fun _ hk => hk.2) (.int .i64 0)) (fun _ hk => hk.2) (.int .i64 0)) (fun _ hk => hk.2) (.int .i64 0)) (fun _ hk => hk.2) (.int .i64 2199023255552)) (fun _ hk => hk.2) (.int .i64 (wrap64 (a0_1 - t225)))) (fun _ hk => hk.2) (.int .i64 (wrap64 ((wrap64 (a0_2 * (wrap64 ((wrap64 (Int.tdiv (ji49) a0_2)) + 1)))) - (ji49))))) (fun _ hk => ⟨hk.1.1.1, ⟨hk.1.1.2.1, ⟨hk.1.1.2.2.1, ⟨hk.1.1.2.2.2.1, ⟨hk.1.1.2.2.2.2, hk.1.2⟩⟩⟩⟩⟩)⟩
                have n2_ : Aside0 ((((((((w120.setCell ⟨gb226, 0, none⟩ (.bool false)).setCell ⟨gb226, 1, none⟩ (.int .i64 0)).setCell ⟨gb226, 2, none⟩ (.int .i64 0)).setCell ⟨gb226, 3, none⟩ (.int .i64 0)).setCell ⟨gb226, 2, none⟩ (.int .i64 2199023255552)).setCell ⟨gb226, 1, none⟩ (.int .i64 (wrap64 (a0_1 - t225)))).setCell ⟨gb226, 3, none⟩ (.int .i64 (wrap64 ((wrap64 (a0_2 * (wrap64 ((wrap64 (Int.tdiv (ji49) a0_2)) + 1)))) - (ji49))))).heap[gb218]? = some (.cells #[.int .i64 a0_0, .int .i64 a0_1, .int .i64 a0_2, .int .i64 a0_3] 23 (0, 0))) := ⟨by (with_reducible repeat (first | refine blk_drewN ?_ _ | refine blk_drew ?_ | refine blk_alloc ?_ _)); refine blk_far ?_ NB218_226.out _; (with_reducible repeat (first | refine blk_drewN ?_ _ | refine blk_drew ?_ | refine blk_alloc ?_ _)); refine blk_far ?_ NB218_226.out _; (with_reducible repeat (first | refine blk_drewN ?_ _ | refine blk_drew ?_ | refine blk_alloc ?_ _)); refine blk_far ?_ NB218_226.out _; (with_reducible repeat (first | refine blk_drewN ?_ _ | refine blk_drew ?_ | refine blk_alloc ?_ _)); refine blk_far ?_ NB218_226.out _; (with_reducible repeat (first | refine blk_drewN ?_ _ | refine blk_drew ?_ | refine blk_alloc ?_ _)); refine blk_far ?_ NB218_226.out _; (with_reducible repeat (first | refine blk_drewN ?_ _ | refine blk_drew ?_ | refine blk_alloc ?_ _)); refine blk_far ?_ NB218_226.out _; (with_reducible repeat (first | refine blk_drewN ?_ _ | refine blk_drew ?_ | refine blk_alloc ?_ _)); refine blk_far ?_ NB218_226.out _; (with_reducible repeat (first | refine blk_drewN ?_ _ | refine blk_drew ?_ | refine blk_alloc ?_ _)); exact BK218.out⟩
                have n3_ : Aside0 ((((((((w120.setCell ⟨gb226, 0, none⟩ (.bool false)).setCell ⟨gb226, 1, none⟩ (.int .i64 0)).setCell ⟨gb226, 2, none⟩ (.int .i64 0)).setCell ⟨gb226, 3, none⟩ (.int .i64 0)).setCell ⟨gb226, 2, none⟩ (.int .i64 2199023255552)).setCell ⟨gb226, 1, none⟩ (.int .i64 (wrap64 (a0_1 - t225)))).setCell ⟨gb226, 3, none⟩ (.int .i64 (wrap64 ((wrap64 (a0_2 * (wrap64 ((wrap64 (Int.tdiv (ji49) a0_2)) + 1)))) - (ji49))))).heap[gb219]? = some (.cells #[.int .i64 a1_0, .int .i64 a1_1, .slice A1_2 l1_2.length c1_2, .slice A1_3 l1_3.length c1_3] 27 (0, 0))) := ⟨by (with_reducible repeat (first | refine blk_drewN ?_ _ | refine blk_drew ?_ | refine blk_alloc ?_ _)); refine blk_far ?_ NB219_226.out _; (with_reducible repeat (first | refine blk_drewN ?_ _ | refine blk_drew ?_ | refine blk_alloc ?_ _)); refine blk_far ?_ NB219_226.out _; (with_reducible repeat (first | refine blk_drewN ?_ _ | refine blk_drew ?_ | refine blk_alloc ?_ _)); refine blk_far ?_ NB219_226.out _; (with_reducible repeat (first | refine blk_drewN ?_ _ | refine blk_drew ?_ | refine blk_alloc ?_ _)); refine blk_far ?_ NB219_226.out _; (with_reducible repeat (first | refine blk_drewN ?_ _ | refine blk_drew ?_ | refine blk_alloc ?_ _)); refine blk_far ?_ NB219_226.out _; (with_reducible repeat (first | refine blk_drewN ?_ _ | refine blk_drew ?_ | refine blk_alloc ?_ _)); refine blk_far ?_ NB219_226.out _; (with_reducible repeat (first | refine blk_drewN ?_ _ | refine blk_drew ?_ | refine blk_alloc ?_ _)); refine blk_far ?_ NB219_226.out _; (with_reducible repeat (first | refine blk_drewN ?_ _ | refine blk_drew ?_ | refine blk_alloc ?_ _)); exact BK219.out⟩
                have n4_ : Aside0 ((((((((w120.setCell ⟨gb226, 0, none⟩ (.bool false)).setCell ⟨gb226, 1, none⟩ (.int .i64 0)).setCell ⟨gb226, 2, none⟩ (.int .i64 0)).setCell ⟨gb226, 3, none⟩ (.int .i64 0)).setCell ⟨gb226, 2, none⟩ (.int .i64 2199023255552)).setCell ⟨gb226, 1, none⟩ (.int .i64 (wrap64 (a0_1 - t225)))).setCell ⟨gb226, 3, none⟩ (.int .i64 (wrap64 ((wrap64 (a0_2 * (wrap64 ((wrap64 (Int.tdiv (ji49) a0_2)) + 1)))) - (ji49))))).heap[gb220]? = some (.cells #[.int .i64 0, .int .i64 0, .slice none 0 0, .slice none 0 0] 27 (0, 0))) := ⟨by (with_reducible repeat (first | refine blk_drewN ?_ _ | refine blk_drew ?_ | refine blk_alloc ?_ _)); refine blk_far ?_ NB220_226.out _; (with_reducible repeat (first | refine blk_drewN ?_ _ | refine blk_drew ?_ | refine blk_alloc ?_ _)); refine blk_far ?_ NB220_226.out _; (with_reducible repeat (first | refine blk_drewN ?_ _ | refine blk_drew ?_ | refine blk_alloc ?_ _)); refine blk_far ?_ NB220_226.out _; (with_reducible repeat (first | refine blk_drewN ?_ _ | refine blk_drew ?_ | refine blk_alloc ?_ _)); refine blk_far ?_ NB220_226.out _; (with_reducible repeat (first | refine blk_drewN ?_ _ | refine blk_drew ?_ | refine blk_alloc ?_ _)); refine blk_far ?_ NB220_226.out _; (with_reducible repeat (first | refine blk_drewN ?_ _ | refine blk_drew ?_ | refine blk_alloc ?_ _)); refine blk_far ?_ NB220_226.out _; (with_reducible repeat (first | refine blk_drewN ?_ _ | refine blk_drew ?_ | refine blk_alloc ?_ _)); refine blk_far ?_ NB220_226.out _; (with_reducible repeat (first | refine blk_drewN ?_ _ | refine blk_drew ?_ | refine blk_alloc ?_ _)); exact BK220.out⟩
                have n5_ : Aside0 ((((((((w120.setCell ⟨gb226, 0, none⟩ (.bool false)).setCell ⟨gb226, 1, none⟩ (.int .i64 0)).setCell ⟨gb226, 2, none⟩ (.int .i64 0)).setCell ⟨gb226, 3, none⟩ (.int .i64 0)).setCell ⟨gb226, 2, none⟩ (.int .i64 2199023255552)).setCell ⟨gb226, 1, none⟩ (.int .i64 (wrap64 (a0_1 - t225)))).setCell ⟨gb226, 3, none⟩ (.int .i64 (wrap64 ((wrap64 (a0_2 * (wrap64 ((wrap64 (Int.tdiv (ji49) a0_2)) + 1)))) - (ji49))))).heap[gb221]? = some (.cells #[.bool false, .int .i64 0, .int .i64 0, .int .i64 0] 32 (0, 0))) := ⟨by (with_reducible repeat (first | refine blk_drewN ?_ _ | refine blk_drew ?_ | refine blk_alloc ?_ _)); refine blk_far ?_ NB221_226.out _; (with_reducible repeat (first | refine blk_drewN ?_ _ | refine blk_drew ?_ | refine blk_alloc ?_ _)); refine blk_far ?_ NB221_226.out _; (with_reducible repeat (first | refine blk_drewN ?_ _ | refine blk_drew ?_ | refine blk_alloc ?_ _)); refine blk_far ?_ NB221_226.out _; (with_reducible repeat (first | refine blk_drewN ?_ _ | refine blk_drew ?_ | refine blk_alloc ?_ _)); refine blk_far ?_ NB221_226.out _; (with_reducible repeat (first | refine blk_drewN ?_ _ | refine blk_drew ?_ | refine blk_alloc ?_ _)); refine blk_far ?_ NB221_226.out _; (with_reducible repeat (first | refine blk_drewN ?_ _ | refine blk_drew ?_ | refine blk_alloc ?_ _)); refine blk_far ?_ NB221_226.out _; (with_reducible repeat (first | refine blk_drewN ?_ _ | refine blk_drew ?_ | refine blk_alloc ?_ _)); refine blk_far ?_ NB221_226.out _; (with_reducible repeat (first | refine blk_drewN ?_ _ | refine blk_drew ?_ | refine blk_alloc ?_ _)); exact BK221.out⟩
                have n6_ : Aside0 ((((((((w120.setCell ⟨gb226, 0, none⟩ (.bool false)).setCell ⟨gb226, 1, none⟩ (.int .i64 0)).setCell ⟨gb226, 2, none⟩ (.int .i64 0)).setCell ⟨gb226, 3, none⟩ (.int .i64 0)).setCell ⟨gb226, 2, none⟩ (.int .i64 2199023255552)).setCell ⟨gb226, 1, none⟩ (.int .i64 (wrap64 (a0_1 - t225)))).setCell ⟨gb226, 3, none⟩ (.int .i64 (wrap64 ((wrap64 (a0_2 * (wrap64 ((wrap64 (Int.tdiv (ji49) a0_2)) + 1)))) - (ji49))))).heap[gb226]? = some (.cells #[.bool false, .int .i64 (wrap64 (a0_1 - t225)), .int .i64 2199023255552, .int .i64 (wrap64 ((wrap64 (a0_2 * (wrap64 ((wrap64 (Int.tdiv (ji49) a0_2)) + 1)))) - (ji49)))] 32 (0, 0))) := ⟨by (with_reducible repeat (first | refine blk_drewN ?_ _ | refine blk_drew ?_ | refine blk_alloc ?_ _)); refine blk_put (cs := #[.bool false, .int .i64 (wrap64 (a0_1 - t225)), .int .i64 2199023255552, .int .i64 0]) ?_ 3 _ rfl; (with_reducible repeat (first | refine blk_drewN ?_ _ | refine blk_drew ?_ | refine blk_alloc ?_ _)); refine blk_put (cs := #[.bool false, .int .i64 0, .int .i64 2199023255552, .int .i64 0]) ?_ 1 _ rfl; (with_reducible repeat (first | refine blk_drewN ?_ _ | refine blk_drew ?_ | refine blk_alloc ?_ _)); refine blk_put (cs := #[.bool false, .int .i64 0, .int .i64 0, .int .i64 0]) ?_ 2 _ rfl; (with_reducible repeat (first | refine blk_drewN ?_ _ | refine blk_drew ?_ | refine blk_alloc ?_ _)); refine blk_put (cs := #[.bool false, .int .i64 0, .int .i64 0, .int .i64 0]) ?_ 3 _ rfl; (with_reducible repeat (first | refine blk_drewN ?_ _ | refine blk_drew ?_ | refine blk_alloc ?_ _)); refine blk_put (cs := #[.bool false, .int .i64 0, .int .i64 0, .int .i64 0]) ?_ 2 _ rfl; (with_reducible repeat (first | refine blk_drewN ?_ _ | refine blk_drew ?_ | refine blk_alloc ?_ _)); refine blk_put (cs := #[.bool false, .int .i64 0, .int .i64 0, .int .i64 0]) ?_ 1 _ rfl; (with_reducible repeat (first | refine blk_drewN ?_ _ | refine blk_drew ?_ | refine blk_alloc ?_ _)); refine blk_put (cs := #[.bool false, .int .i64 0, .int .i64 0, .int .i64 0]) ?_ 0 _ rfl; (with_reducible repeat (first | refine blk_drewN ?_ _ | refine blk_drew ?_ | refine blk_alloc ?_ _)); exact BK226.out⟩
                have n7_ : Aside0 (Below w.heap.size w (((((((w120.setCell ⟨gb226, 0, none⟩ (.bool false)).setCell ⟨gb226, 1, none⟩ (.int .i64 0)).setCell ⟨gb226, 2, none⟩ (.int .i64 0)).setCell ⟨gb226, 3, none⟩ (.int .i64 0)).setCell ⟨gb226, 2, none⟩ (.int .i64 2199023255552)).setCell ⟨gb226, 1, none⟩ (.int .i64 (wrap64 (a0_1 - t225)))).setCell ⟨gb226, 3, none⟩ (.int .i64 (wrap64 ((wrap64 (a0_2 * (wrap64 ((wrap64 (Int.tdiv (ji49) a0_2)) + 1)))) - (ji49)))))) := ⟨bl HB⟩
                (try clear HO_220002)
                (try clear HO_220003)
                (try clear BK218)
                (try clear BK219)
                (try clear BK220)
                (try clear BK221)
                (try clear BK226)
                (try clear HB)
                generalize (((((((w120.setCell ⟨gb226, 0, none⟩ (.bool false)).setCell ⟨gb226, 1, none⟩ (.int .i64 0)).setCell ⟨gb226, 2, none⟩ (.int .i64 0)).setCell ⟨gb226, 3, none⟩ (.int .i64 0)).setCell ⟨gb226, 2, none⟩ (.int .i64 2199023255552)).setCell ⟨gb226, 1, none⟩ (.int .i64 (wrap64 (a0_1 - t225)))).setCell ⟨gb226, 3, none⟩ (.int .i64 (wrap64 ((wrap64 (a0_2 * (wrap64 ((wrap64 (Int.tdiv (ji49) a0_2)) + 1)))) - (ji49))))) = w127 at n0_ n1_ n2_ n3_ n4_ n5_ n6_ n7_ ⊢
                have HO_220002 := n0_
                have HO_220003 := n1_
                have BK218 := n2_
                have BK219 := n3_
                have BK220 := n4_
                have BK221 := n5_
                have BK226 := n6_
                have HB := n7_
                clear n0_ n1_ n2_ n3_ n4_ n5_ n6_ n7_
                replace HO_220002 := Aside0.mk (Kd.V_drew HO_220002.out)
                replace HO_220003 := Aside0.mk (Kd.V_drew HO_220003.out)
                replace BK218 := Aside0.mk (blk_drew BK218.out)
                replace BK219 := Aside0.mk (blk_drew BK219.out)
                replace BK220 := Aside0.mk (blk_drew BK220.out)
                replace BK221 := Aside0.mk (blk_drew BK221.out)
                replace BK226 := Aside0.mk (blk_drew BK226.out)
                replace HB := Aside0.mk (below_drew1 HB.out)
                refine start_ (n := 6) (S := fun w' => w'.cell? ⟨gb226, 0, none⟩ = some (.bool false) ∧ w'.cell? ⟨gb226, 1, none⟩ = some (.int .i64 (wrap64 (a0_1 - t225))) ∧ w'.cell? ⟨gb226, 2, none⟩ = some (.int .i64 2199023255552) ∧ w'.cell? ⟨gb226, 3, none⟩ = some (.int .i64 (wrap64 ((wrap64 (a0_2 * (wrap64 ((wrap64 (Int.tdiv (ji49) a0_2)) + 1)))) - (ji49))))) (ds := []) #[false, false, false, false, false, false] (by kernel_rfl) rfl rfl ⟨(blk_cell BK226.out 0).trans rfl, (blk_cell BK226.out 1).trans rfl, (blk_cell BK226.out 2).trans rfl, (blk_cell BK226.out 3).trans rfl⟩ (fun hHeld => ?_)
                generalize w127.drew = w128 at HO_220002 HO_220003 BK218 BK219 BK220 BK221 BK226 HB hHeld ⊢
                refine pureB 0 75 ?_
                refine pureB 1 76 ?_
                refine pureB 2 77 ?_
                refine takeB' 3 78 hHeld ?_
                refine one_ (i := 4) (N := none) #[true, true, true, true, true, false] rfl rfl (by kernel_rfl) (by decide) (fun K hK => ?_)
                have hs129 : w128.cell? ⟨gb220, 0, none⟩ = some (.int .i64 0) := (blk_cell BK220.out 0).trans rfl
                have hfs129 := blk_frozen BK220.out 0
                have hns129_0 := NB218_220.out
                have hns129_1 := NB219_220.out
                have hns129_3 := NB221_220.out
                have hns129_4 := NB226_220.out
                have hms129_0 := NB220_218.out
                have hms129_1 := NB220_219.out
                have hms129_3 := NB220_221.out
                have hms129_4 := NB220_226.out
                have hs130 : w128.cell? ⟨gb220, 1, none⟩ = some (.int .i64 0) := (blk_cell BK220.out 1).trans rfl
                have hfs130 := blk_frozen BK220.out 1
                have hns130_0 := NB218_220.out
                have hns130_1 := NB219_220.out
                have hns130_3 := NB221_220.out
                have hns130_4 := NB226_220.out
                have hms130_0 := NB220_218.out
                have hms130_1 := NB220_219.out
                have hms130_3 := NB220_221.out
                have hms130_4 := NB220_226.out
                have hs131 : w128.cell? ⟨gb220, 2, none⟩ = some (.slice none 0 0) := (blk_cell BK220.out 2).trans rfl
                have hfs131 := blk_frozen BK220.out 2
                have hns131_0 := NB218_220.out
                have hns131_1 := NB219_220.out
                have hns131_3 := NB221_220.out
                have hns131_4 := NB226_220.out
                have hms131_0 := NB220_218.out
                have hms131_1 := NB220_219.out
                have hms131_3 := NB220_221.out
                have hms131_4 := NB220_226.out
                have hs132 : w128.cell? ⟨gb220, 3, none⟩ = some (.slice none 0 0) := (blk_cell BK220.out 3).trans rfl
                have hfs132 := blk_frozen BK220.out 3
                have hns132_0 := NB218_220.out
                have hns132_1 := NB219_220.out
                have hns132_3 := NB221_220.out
                have hns132_4 := NB226_220.out
                have hms132_0 := NB220_218.out
                have hms132_1 := NB220_219.out
                have hms132_3 := NB220_221.out
                have hms132_4 := NB220_226.out
                refine skip_ (w1 := ?_) (by rfl) rfl ?_ ?_
                rotate_left
                · go_simp
                  rfl
                refine hK.out _ _ ⟨((cell_far (p := ⟨gb220, _, none⟩) NB226_220.out _).trans (((cell_far (p := ⟨gb220, _, none⟩) NB226_220.out _).trans (((cell_far (p := ⟨gb220, _, none⟩) NB226_220.out _).trans (((cell_far (p := ⟨gb220, _, none⟩) NB226_220.out _).trans (hHeld.1)))))))), ((cell_far (p := ⟨gb220, _, none⟩) NB226_220.out _).trans (((cell_far (p := ⟨gb220, _, none⟩) NB226_220.out _).trans (((cell_far (p := ⟨gb220, _, none⟩) NB226_220.out _).trans (((cell_far (p := ⟨gb220, _, none⟩) NB226_220.out _).trans (hHeld.2.1)))))))), ((cell_far (p := ⟨gb220, _, none⟩) NB226_220.out _).trans (((cell_far (p := ⟨gb220, _, none⟩) NB226_220.out _).trans (((cell_far (p := ⟨gb220, _, none⟩) NB226_220.out _).trans (((cell_far (p := ⟨gb220, _, none⟩) NB226_220.out _).trans (hHeld.2.2.1)))))))), ((cell_far (p := ⟨gb220, _, none⟩) NB226_220.out _).trans (((cell_far (p := ⟨gb220, _, none⟩) NB226_220.out _).trans (((cell_far (p := ⟨gb220, _, none⟩) NB226_220.out _).trans (((cell_far (p := ⟨gb220, _, none⟩) NB226_220.out _).trans (hHeld.2.2.2))))))))⟩ (fun hHeld => ?_)
                clear hK K
                refine one_ (i := 5) (N := none) #[true, true, true, true, true, true] rfl rfl (by kernel_rfl) (by decide) (fun K hK => ?_)
                have hs133 : w128.cell? ⟨gb221, 0, none⟩ = some (.bool false) := (blk_cell BK221.out 0).trans rfl
                have hfs133 := blk_frozen BK221.out 0
                have hns133_0 := NB218_221.out
                have hns133_1 := NB219_221.out
                have hns133_2 := NB220_221.out
                have hns133_4 := NB226_221.out
                have hms133_0 := NB221_218.out
                have hms133_1 := NB221_219.out
                have hms133_2 := NB221_220.out
                have hms133_4 := NB221_226.out
                have hs134 : w128.cell? ⟨gb221, 1, none⟩ = some (.int .i64 0) := (blk_cell BK221.out 1).trans rfl
                have hfs134 := blk_frozen BK221.out 1
                have hns134_0 := NB218_221.out
                have hns134_1 := NB219_221.out
                have hns134_2 := NB220_221.out
                have hns134_4 := NB226_221.out
                have hms134_0 := NB221_218.out
                have hms134_1 := NB221_219.out
                have hms134_2 := NB221_220.out
                have hms134_4 := NB221_226.out
                have hs135 : w128.cell? ⟨gb221, 2, none⟩ = some (.int .i64 0) := (blk_cell BK221.out 2).trans rfl
                have hfs135 := blk_frozen BK221.out 2
                have hns135_0 := NB218_221.out
                have hns135_1 := NB219_221.out
                have hns135_2 := NB220_221.out
                have hns135_4 := NB226_221.out
                have hms135_0 := NB221_218.out
                have hms135_1 := NB221_219.out
                have hms135_2 := NB221_220.out
                have hms135_4 := NB221_226.out
                have hs136 : w128.cell? ⟨gb221, 3, none⟩ = some (.int .i64 0) := (blk_cell BK221.out 3).trans rfl
                have hfs136 := blk_frozen BK221.out 3
                have hns136_0 := NB218_221.out
                have hns136_1 := NB219_221.out
                have hns136_2 := NB220_221.out
                have hns136_4 := NB226_221.out
                have hms136_0 := NB221_218.out
                have hms136_1 := NB221_219.out
                have hms136_2 := NB221_220.out
                have hms136_4 := NB221_226.out
                refine skip_ (w1 := ?_) (by rfl) rfl ?_ ?_
                rotate_left
                · go_simp
                  rfl
                refine hK.out _ _ ⟨((cell_far (p := ⟨gb221, _, none⟩) NB226_221.out _).trans (((cell_far (p := ⟨gb221, _, none⟩) NB226_221.out _).trans (((cell_far (p := ⟨gb221, _, none⟩) NB226_221.out _).trans (((cell_far (p := ⟨gb221, _, none⟩) NB226_221.out _).trans (hHeld.1)))))))), ((cell_far (p := ⟨gb221, _, none⟩) NB226_221.out _).trans (((cell_far (p := ⟨gb221, _, none⟩) NB226_221.out _).trans (((cell_far (p := ⟨gb221, _, none⟩) NB226_221.out _).trans (((cell_far (p := ⟨gb221, _, none⟩) NB226_221.out _).trans (hHeld.2.1)))))))), ((cell_far (p := ⟨gb221, _, none⟩) NB226_221.out _).trans (((cell_far (p := ⟨gb221, _, none⟩) NB226_221.out _).trans (((cell_far (p := ⟨gb221, _, none⟩) NB226_221.out _).trans (((cell_far (p := ⟨gb221, _, none⟩) NB226_221.out _).trans (hHeld.2.2.1)))))))), ((cell_far (p := ⟨gb221, _, none⟩) NB226_221.out _).trans (((cell_far (p := ⟨gb221, _, none⟩) NB226_221.out _).trans (((cell_far (p := ⟨gb221, _, none⟩) NB226_221.out _).trans (((cell_far (p := ⟨gb221, _, none⟩) NB226_221.out _).trans (hHeld.2.2.2))))))))⟩ (fun hHeld => ?_)
                clear hK K
                refine done_ (by kernel_rfl) ?_
                try go_wp2
                refine bodyPost_ret (results_cc rfl _ _ gb220 gb221 27 32 #[.int .i64 ji49, .int .i64 t225, .slice none 0 0, .slice none 0 0] #[.bool false, .int .i64 (wrap64 (a0_1 - t225)), .int .i64 2199023255552, .int .i64 (wrap64 ((wrap64 (a0_2 * (wrap64 ((wrap64 (Int.tdiv (ji49) a0_2)) + 1)))) - (ji49)))] (0, 0) (0, 0) _ _ rfl (by (with_reducible repeat (first | refine blk_drewN ?_ _ | refine blk_drew ?_ | refine blk_alloc ?_ _)); refine blk_far ?_ NB220_221.out _; (with_reducible repeat (first | refine blk_drewN ?_ _ | refine blk_drew ?_ | refine blk_alloc ?_ _)); refine blk_far ?_ NB220_221.out _; (with_reducible repeat (first | refine blk_drewN ?_ _ | refine blk_drew ?_ | refine blk_alloc ?_ _)); refine blk_far ?_ NB220_221.out _; (with_reducible repeat (first | refine blk_drewN ?_ _ | refine blk_drew ?_ | refine blk_alloc ?_ _)); refine blk_far ?_ NB220_221.out _; (with_reducible repeat (first | refine blk_drewN ?_ _ | refine blk_drew ?_ | refine blk_alloc ?_ _)); refine blk_put (cs := #[.int .i64 ji49, .int .i64 t225, .slice none 0 0, .slice none 0 0]) ?_ 3 _ rfl; (with_reducible repeat (first | refine blk_drewN ?_ _ | refine blk_drew ?_ | refine blk_alloc ?_ _)); refine blk_put (cs := #[.int .i64 ji49, .int .i64 t225, .slice none 0 0, .slice none 0 0]) ?_ 2 _ rfl; (with_reducible repeat (first | refine blk_drewN ?_ _ | refine blk_drew ?_ | refine blk_alloc ?_ _)); refine blk_put (cs := #[.int .i64 ji49, .int .i64 0, .slice none 0 0, .slice none 0 0]) ?_ 1 _ rfl; (with_reducible repeat (first | refine blk_drewN ?_ _ | refine blk_drew ?_ | refine blk_alloc ?_ _)); refine blk_put (cs := #[.int .i64 0, .int .i64 0, .slice none 0 0, .slice none 0 0]) ?_ 0 _ rfl; (with_reducible repeat (first | refine blk_drewN ?_ _ | refine blk_drew ?_ | refine blk_alloc ?_ _)); exact BK220.out) Try.underlying27 rfl (by kernel_rfl) rfl (by (with_reducible repeat (first | refine blk_drewN ?_ _ | refine blk_drew ?_ | refine blk_alloc ?_ _)); refine blk_put (cs := #[.bool false, .int .i64 (wrap64 (a0_1 - t225)), .int .i64 2199023255552, .int .i64 0]) ?_ 3 _ rfl; (with_reducible repeat (first | refine blk_drewN ?_ _ | refine blk_drew ?_ | refine blk_alloc ?_ _)); refine blk_put (cs := #[.bool false, .int .i64 (wrap64 (a0_1 - t225)), .int .i64 0, .int .i64 0]) ?_ 2 _ rfl; (with_reducible repeat (first | refine blk_drewN ?_ _ | refine blk_drew ?_ | refine blk_alloc ?_ _)); refine blk_put (cs := #[.bool false, .int .i64 0, .int .i64 0, .int .i64 0]) ?_ 1 _ rfl; (with_reducible repeat (first | refine blk_drewN ?_ _ | refine blk_drew ?_ | refine blk_alloc ?_ _)); refine blk_put (cs := #[.bool false, .int .i64 0, .int .i64 0, .int .i64 0]) ?_ 0 _ rfl; (with_reducible repeat (first | refine blk_drewN ?_ _ | refine blk_drew ?_ | refine blk_alloc ?_ _)); refine blk_far ?_ NB221_220.out _; (with_reducible repeat (first | refine blk_drewN ?_ _ | refine blk_drew ?_ | refine blk_alloc ?_ _)); refine blk_far ?_ NB221_220.out _; (with_reducible repeat (first | refine blk_drewN ?_ _ | refine blk_drew ?_ | refine blk_alloc ?_ _)); refine blk_far ?_ NB221_220.out _; (with_reducible repeat (first | refine blk_drewN ?_ _ | refine blk_drew ?_ | refine blk_alloc ?_ _)); refine blk_far ?_ NB221_220.out _; (with_reducible repeat (first | refine blk_drewN ?_ _ | refine blk_drew ?_ | refine blk_alloc ?_ _)); exact BK221.out) Try.underlying32 rfl (by kernel_rfl)) rfl ?_
                exact ⟨_, _, by first | (with_reducible rfl) | (simp only [← hji49]; with_reducible rfl) | (simp only [← hji49]; done) | rfl | (simp [errW_none, errW_some] <;> rfl) | (simp only [← hji49]; first | rfl | (simp [errW_none, errW_some] <;> rfl)) | (simp [*, errW_none, errW_some] <;> rfl), Kd.V_nil _ _ _ _ _, Kd.V_nil _ _ _ _ _, bl HB⟩
              · rw [if_neg c109] at H
                have c109b0 : decide (0 < t225) = false := decide_eq_false c109
                clear c109
                simp only [Option.some.injEq, Prod.mk.injEq] at H
                obtain ⟨rfl, rfl, rfl, rfl, rfl, rfl, rfl, rfl⟩ := H
                have hnb137 := NB219_218.out
                have hnc137 := NB218_219.out
                have hnb138 := NB219_220.out
                have hnc138 := NB220_219.out
                have hnb139 := NB219_221.out
                have hnc139 := NB221_219.out
                obtain ⟨hcz140_0, hcz140_1, hcz140_2, hcz140_3⟩ := ce4 BK219
                obtain ⟨hfz140_0, hfz140_1, hfz140_2, hfz140_3⟩ := fr4 BK219
                have hnb141 := NB218_220.out
                have hnc141 := NB220_218.out
                have hnb142 := NB218_221.out
                have hnc142 := NB221_218.out
                obtain ⟨hcz143_0, hcz143_1, hcz143_2, hcz143_3⟩ := ce4 BK218
                obtain ⟨hfz143_0, hfz143_1, hfz143_2, hfz143_3⟩ := fr4 BK218
                try go_wp2_with (first | ((with_reducible refine gate_callee (f := 16) rfl ?_); refine goesL_ (some 36) rfl rfl Try.func16 (by kernel_rfl) rfl #[.agg #[.int .i64 a0_0, .int .i64 a0_1, .int .i64 a0_2, .int .i64 a0_3], .agg #[.int .i64 a1_0, .int .i64 a1_1, .slice A1_2 l1_2.length c1_2, .slice A1_3 l1_3.length c1_3], .int .i64 ji49] rfl (by (try simp only [List.map_toArray, List.map_cons, List.map_nil]); first | done | (simp only [hji49]; rfl) | rfl | (simp only [List.length_drop, List.length_take]; rfl)) ?_; (with_reducible refine (sandglassref11_Total.calls kj4 a0_0 a0_1 a0_2 a0_3 a1_0 a1_1 _ _ l1_2 _ _ l1_3 ji49 t225 _ ?side1 ?side2 ?side3 ?side4 A50.out).mono ?_); (case side1 => repeat (first | exact (Kd.V_reads' HO_220002.out).2.2 | (with_reducible refine Kd.C_alloc ?_ _) | (with_reducible refine Kd.C_drewN ?_ _) | (with_reducible refine Kd.C_drew ?_))); (case side2 => exact (Kd.V_reads' HO_220002.out).2.1); (case side3 => repeat (first | exact (Kd.V_reads' HO_220003.out).2.2 | (with_reducible refine Kd.C_alloc ?_ _) | (with_reducible refine Kd.C_drewN ?_ _) | (with_reducible refine Kd.C_drew ?_))); (case side4 => exact (Kd.V_reads' HO_220003.out).2.1); rintro e w144 ⟨rfl, hb⟩; refine ⟨_, rfl, ?_⟩; replace HO_220002 := vb HO_220002 hb; replace HO_220003 := vb HO_220003 hb; replace BK218 := Aside0.mk (blk_below (bo BK218) hb); replace BK219 := Aside0.mk (blk_below (bo BK219) hb); replace BK220 := Aside0.mk (blk_below (bo BK220) hb); replace BK221 := Aside0.mk (blk_below (bo BK221) hb); replace HB := Aside0.mk (below_step (bl HB) hb); (try clear hb); (try clear hb2); (try clear hk); (try clear hi)))
                replace HO_220002 := Aside0.mk (Kd.V_drew HO_220002.out)
                replace HO_220003 := Aside0.mk (Kd.V_drew HO_220003.out)
                replace BK218 := Aside0.mk (blk_drew BK218.out)
                replace BK219 := Aside0.mk (blk_drew BK219.out)
                replace BK220 := Aside0.mk (blk_drew BK220.out)
                replace BK221 := Aside0.mk (blk_drew BK221.out)
                replace HB := Aside0.mk (below_drew1 HB.out)
                refine start_ (n := 11) (S := fun w' => w'.cell? ⟨gb218, 0, none⟩ = some (.int .i64 a0_0) ∧ w'.cell? ⟨gb218, 1, none⟩ = some (.int .i64 a0_1) ∧ w'.cell? ⟨gb218, 2, none⟩ = some (.int .i64 a0_2) ∧ w'.cell? ⟨gb218, 3, none⟩ = some (.int .i64 a0_3)) (ds := []) #[false, false, false, false, false, false, false, false, false, false, false] (by kernel_rfl) rfl rfl ⟨(blk_cell BK218.out 0).trans rfl, (blk_cell BK218.out 1).trans rfl, (blk_cell BK218.out 2).trans rfl, (blk_cell BK218.out 3).trans rfl⟩ (fun hHeld => ?_); refine with_tabW sandglassref11_Ask.tab5 sandglassref11_Ask.bits5 (fun HT_ HW_ => ?_)
                generalize w144.drew = w145 at HO_220002 HO_220003 BK218 BK219 BK220 BK221 HB hHeld ⊢
                refine pureA 0 37 HT_ ?_
                refine pureA 2 39 HT_ ?_
                refine pureA 3 40 HT_ ?_
                refine pureA 8 45 HT_ ?_
                refine takeA 1 38 HT_ HW_ hHeld ?_
                refine takeA 4 41 HT_ HW_ hHeld ?_
                refine pureA 5 42 HT_ ?_
                refine pureA 6 43 HT_ ?_
                refine pureA 7 44 HT_ ?_
                refine pureA 9 46 HT_ ?_
                refine pureA 10 11 HT_ ?_
                refine done_ (done_of HT_.out (by kernel_rfl)) ?_
                obtain ⟨hcz146_0, hcz146_1, hcz146_2, hcz146_3⟩ := ce4 BK218
                obtain ⟨hfz146_0, hfz146_1, hfz146_2, hfz146_3⟩ := fr4 BK218
                try go_wp2_with (first | ((with_reducible refine gate_dst (N := 12) rfl ?_); refine box_event ?hg (N := 12) ?hd (cs := #[.bool false, .int .i64 0, .int .i64 0, .int .i64 0]) (t := 32) ?hr ?_; (case hd => rfl); (case hg => rfl); (case hr => first | (go_simp; done) | (go_simp; rfl)); intro gb226 hg w147 hbox hb; have BK226 := Aside0.mk (hbox); have GW226 := Aside0.mk ((by rw [hg]; exact (below_size (bl HB)) : w.heap.size ≤ gb226)); have GE226 := Aside0.mk ((by rw [hg]; exact (below_size (bl HB)) : w.heap.size ≤ gb226)); have NB218_226 := nb BK218 hg; have NB226_218 := bn BK218 hg; have NB219_226 := nb BK219 hg; have NB226_219 := bn BK219 hg; have NB220_226 := nb BK220 hg; have NB226_220 := bn BK220 hg; have NB221_226 := nb BK221 hg; have NB226_221 := bn BK221 hg; replace HO_220002 := ve HO_220002 hg hb; replace HO_220003 := ve HO_220003 hg hb; replace BK218 := Aside0.mk (blk_below (bo BK218) hb); replace BK219 := Aside0.mk (blk_below (bo BK219) hb); replace BK220 := Aside0.mk (blk_below (bo BK220) hb); replace BK221 := Aside0.mk (blk_below (bo BK221) hb); replace HB := Aside0.mk (below_step (bl HB) hb); clear hb hbox hg; have hnb148 := NB226_218.out; have hnc148 := NB218_226.out; have hnb149 := NB226_219.out; have hnc149 := NB219_226.out; have hnb150 := NB226_220.out; have hnc150 := NB220_226.out; have hnb151 := NB226_221.out; have hnc151 := NB221_226.out; obtain ⟨hcz152_0, hcz152_1, hcz152_2, hcz152_3⟩ := ce4 BK226; obtain ⟨hfz152_0, hfz152_1, hfz152_2, hfz152_3⟩ := fr4 BK226; obtain ⟨hcz153_0, hcz153_1, hcz153_2, hcz153_3⟩ := ce4 BK218; obtain ⟨hfz153_0, hfz153_1, hfz153_2, hfz153_3⟩ := fr4 BK218))
                have n0_ : Aside0 (Kd.V (Kd.int .i64) 3 ((((((w147.setCell ⟨gb226, 0, none⟩ (.bool false)).setCell ⟨gb226, 1, none⟩ (.int .i64 0)).setCell ⟨gb226, 2, none⟩ (.int .i64 0)).setCell ⟨gb226, 3, none⟩ (.int .i64 0)).setCell ⟨gb226, 2, none⟩ (.int .i64 2199023255552)).setCell ⟨gb226, 1, none⟩ (.int .i64 (wrap64 (a0_1 - t225)))) w.heap.size (fun k_ => ((P1_2_ k_ ∨ P1_3_ k_) ∨ w.heap.size ≤ k_) ∧ k_ ≠ gb218 ∧ k_ ≠ gb219 ∧ k_ ≠ gb220 ∧ k_ ≠ gb221 ∧ k_ ≠ gb226) (.slice A1_2 l1_2.length c1_2) l1_2) := ⟨by (with_reducible repeat (first | apply Kd.V_alloc | apply Kd.V_drewN | apply Kd.V_drew)); exact Kd.V_mono (Kd.V_far (p := ⟨gb226, 1, none⟩) (Kd.V_far (p := ⟨gb226, 2, none⟩) (Kd.V_far (p := ⟨gb226, 3, none⟩) (Kd.V_far (p := ⟨gb226, 2, none⟩) (Kd.V_far (p := ⟨gb226, 1, none⟩) (Kd.V_far (p := ⟨gb226, 0, none⟩) (Kd.V_mono HO_220002.out (fun k_ hk => (⟨hk, hk.2⟩ : _ ∧ k_ ≠ gb226))) (fun _ hk => hk.2) (.bool false)) (fun _ hk => hk.2) (.int .i64 0)) (fun _ hk => hk.2) (.int .i64 0)) (fun _ hk => hk.2) (.int .i64 0)) (fun _ hk => hk.2) (.int .i64 2199023255552)) (fun _ hk => hk.2) (.int .i64 (wrap64 (a0_1 - t225)))) (fun _ hk => ⟨hk.1.1.1, ⟨hk.1.1.2.1, ⟨hk.1.1.2.2.1, ⟨hk.1.1.2.2.2.1, ⟨hk.1.1.2.2.2.2, hk.1.2⟩⟩⟩⟩⟩)⟩
                have n1_ : Aside0 (Kd.V k53 53 ((((((w147.setCell ⟨gb226, 0, none⟩ (.bool false)).setCell ⟨gb226, 1, none⟩ (.int .i64 0)).setCell ⟨gb226, 2, none⟩ (.int .i64 0)).setCell ⟨gb226, 3, none⟩ (.int .i64 0)).setCell ⟨gb226, 2, none⟩ (.int .i64 2199023255552)).setCell ⟨gb226, 1, none⟩ (.int .i64 (wrap64 (a0_1 - t225)))) w.heap.size (fun k_ => ((P1_2_ k_ ∨ P1_3_ k_) ∨ w.heap.size ≤ k_) ∧ k_ ≠ gb218 ∧ k_ ≠ gb219 ∧ k_ ≠ gb220 ∧ k_ ≠ gb221 ∧ k_ ≠ gb226) (.slice A1_3 l1_3.length c1_3) l1_3) := ⟨by (with_reducible repeat (first | apply Kd.V_alloc | apply Kd.V_drewN | apply Kd.V_drew)); exact Kd.V_mono (Kd.V_far (p := ⟨gb226, 1, none⟩) (Kd.V_far (p := ⟨gb226, 2, none⟩) (Kd.V_far (p := ⟨gb226, 3, none⟩) (Kd.V_far (p := ⟨gb226, 2, none⟩) (Kd.V_far (p := ⟨gb226, 1, none⟩) (Kd.V_far (p := ⟨gb226, 0, none⟩) (Kd.V_mono HO_220003.out (fun k_ hk => (⟨hk, hk.2⟩ : _ ∧ k_ ≠ gb226))) (fun _ hk => hk.2) (.bool false)) (fun _ hk => hk.2) (.int .i64 0)) (fun _ hk => hk.2) (.int .i64 0)) (fun _ hk => hk.2) (.int .i64 0)) (fun _ hk => hk.2) (.int .i64 2199023255552)) (fun _ hk => hk.2) (.int .i64 (wrap64 (a0_1 - t225)))) (fun _ hk => ⟨hk.1.1.1, ⟨hk.1.1.2.1, ⟨hk.1.1.2.2.1, ⟨hk.1.1.2.2.2.1, ⟨hk.1.1.2.2.2.2, hk.1.2⟩⟩⟩⟩⟩)⟩
                have n2_ : Aside0 (((((((w147.setCell ⟨gb226, 0, none⟩ (.bool false)).setCell ⟨gb226, 1, none⟩ (.int .i64 0)).setCell ⟨gb226, 2, none⟩ (.int .i64 0)).setCell ⟨gb226, 3, none⟩ (.int .i64 0)).setCell ⟨gb226, 2, none⟩ (.int .i64 2199023255552)).setCell ⟨gb226, 1, none⟩ (.int .i64 (wrap64 (a0_1 - t225)))).heap[gb218]? = some (.cells #[.int .i64 a0_0, .int .i64 a0_1, .int .i64 a0_2, .int .i64 a0_3] 23 (0, 0))) := ⟨by (with_reducible repeat (first | refine blk_drewN ?_ _ | refine blk_drew ?_ | refine blk_alloc ?_ _)); refine blk_far ?_ NB218_226.out _; (with_reducible repeat (first | refine blk_drewN ?_ _ | refine blk_drew ?_ | refine blk_alloc ?_ _)); refine blk_far ?_ NB218_226.out _; (with_reducible repeat (first | refine blk_drewN ?_ _ | refine blk_drew ?_ | refine blk_alloc ?_ _)); refine blk_far ?_ NB218_226.out _; (with_reducible repeat (first | refine blk_drewN ?_ _ | refine blk_drew ?_ | refine blk_alloc ?_ _)); refine blk_far ?_ NB218_226.out _; (with_reducible repeat (first | refine blk_drewN ?_ _ | refine blk_drew ?_ | refine blk_alloc ?_ _)); refine blk_far ?_ NB218_226.out _; (with_reducible repeat (first | refine blk_drewN ?_ _ | refine blk_drew ?_ | refine blk_alloc ?_ _)); refine blk_far ?_ NB218_226.out _; (with_reducible repeat (first | refine blk_drewN ?_ _ | refine blk_drew ?_ | refine blk_alloc ?_ _)); exact BK218.out⟩
                have n3_ : Aside0 (((((((w147.setCell ⟨gb226, 0, none⟩ (.bool false)).setCell ⟨gb226, 1, none⟩ (.int .i64 0)).setCell ⟨gb226, 2, none⟩ (.int .i64 0)).setCell ⟨gb226, 3, none⟩ (.int .i64 0)).setCell ⟨gb226, 2, none⟩ (.int .i64 2199023255552)).setCell ⟨gb226, 1, none⟩ (.int .i64 (wrap64 (a0_1 - t225)))).heap[gb219]? = some (.cells #[.int .i64 a1_0, .int .i64 a1_1, .slice A1_2 l1_2.length c1_2, .slice A1_3 l1_3.length c1_3] 27 (0, 0))) := ⟨by (with_reducible repeat (first | refine blk_drewN ?_ _ | refine blk_drew ?_ | refine blk_alloc ?_ _)); refine blk_far ?_ NB219_226.out _; (with_reducible repeat (first | refine blk_drewN ?_ _ | refine blk_drew ?_ | refine blk_alloc ?_ _)); refine blk_far ?_ NB219_226.out _; (with_reducible repeat (first | refine blk_drewN ?_ _ | refine blk_drew ?_ | refine blk_alloc ?_ _)); refine blk_far ?_ NB219_226.out _; (with_reducible repeat (first | refine blk_drewN ?_ _ | refine blk_drew ?_ | refine blk_alloc ?_ _)); refine blk_far ?_ NB219_226.out _; (with_reducible repeat (first | refine blk_drewN ?_ _ | refine blk_drew ?_ | refine blk_alloc ?_ _)); refine blk_far ?_ NB219_226.out _; (with_reducible repeat (first | refine blk_drewN ?_ _ | refine blk_drew ?_ | refine blk_alloc ?_ _)); refine blk_far ?_ NB219_226.out _; (with_reducible repeat (first | refine blk_drewN ?_ _ | refine blk_drew ?_ | refine blk_alloc ?_ _)); exact BK219.out⟩
                have n4_ : Aside0 (((((((w147.setCell ⟨gb226, 0, none⟩ (.bool false)).setCell ⟨gb226, 1, none⟩ (.int .i64 0)).setCell ⟨gb226, 2, none⟩ (.int .i64 0)).setCell ⟨gb226, 3, none⟩ (.int .i64 0)).setCell ⟨gb226, 2, none⟩ (.int .i64 2199023255552)).setCell ⟨gb226, 1, none⟩ (.int .i64 (wrap64 (a0_1 - t225)))).heap[gb220]? = some (.cells #[.int .i64 0, .int .i64 0, .slice none 0 0, .slice none 0 0] 27 (0, 0))) := ⟨by (with_reducible repeat (first | refine blk_drewN ?_ _ | refine blk_drew ?_ | refine blk_alloc ?_ _)); refine blk_far ?_ NB220_226.out _; (with_reducible repeat (first | refine blk_drewN ?_ _ | refine blk_drew ?_ | refine blk_alloc ?_ _)); refine blk_far ?_ NB220_226.out _; (with_reducible repeat (first | refine blk_drewN ?_ _ | refine blk_drew ?_ | refine blk_alloc ?_ _)); refine blk_far ?_ NB220_226.out _; (with_reducible repeat (first | refine blk_drewN ?_ _ | refine blk_drew ?_ | refine blk_alloc ?_ _)); refine blk_far ?_ NB220_226.out _; (with_reducible repeat (first | refine blk_drewN ?_ _ | refine blk_drew ?_ | refine blk_alloc ?_ _)); refine blk_far ?_ NB220_226.out _; (with_reducible repeat (first | refine blk_drewN ?_ _ | refine blk_drew ?_ | refine blk_alloc ?_ _)); refine blk_far ?_ NB220_226.out _; (with_reducible repeat (first | refine blk_drewN ?_ _ | refine blk_drew ?_ | refine blk_alloc ?_ _)); exact BK220.out⟩
                have n5_ : Aside0 (((((((w147.setCell ⟨gb226, 0, none⟩ (.bool false)).setCell ⟨gb226, 1, none⟩ (.int .i64 0)).setCell ⟨gb226, 2, none⟩ (.int .i64 0)).setCell ⟨gb226, 3, none⟩ (.int .i64 0)).setCell ⟨gb226, 2, none⟩ (.int .i64 2199023255552)).setCell ⟨gb226, 1, none⟩ (.int .i64 (wrap64 (a0_1 - t225)))).heap[gb221]? = some (.cells #[.bool false, .int .i64 0, .int .i64 0, .int .i64 0] 32 (0, 0))) := ⟨by (with_reducible repeat (first | refine blk_drewN ?_ _ | refine blk_drew ?_ | refine blk_alloc ?_ _)); refine blk_far ?_ NB221_226.out _; (with_reducible repeat (first | refine blk_drewN ?_ _ | refine blk_drew ?_ | refine blk_alloc ?_ _)); refine blk_far ?_ NB221_226.out _; (with_reducible repeat (first | refine blk_drewN ?_ _ | refine blk_drew ?_ | refine blk_alloc ?_ _)); refine blk_far ?_ NB221_226.out _; (with_reducible repeat (first | refine blk_drewN ?_ _ | refine blk_drew ?_ | refine blk_alloc ?_ _)); refine blk_far ?_ NB221_226.out _; (with_reducible repeat (first | refine blk_drewN ?_ _ | refine blk_drew ?_ | refine blk_alloc ?_ _)); refine blk_far ?_ NB221_226.out _; (with_reducible repeat (first | refine blk_drewN ?_ _ | refine blk_drew ?_ | refine blk_alloc ?_ _)); refine blk_far ?_ NB221_226.out _; (with_reducible repeat (first | refine blk_drewN ?_ _ | refine blk_drew ?_ | refine blk_alloc ?_ _)); exact BK221.out⟩
                have n6_ : Aside0 (((((((w147.setCell ⟨gb226, 0, none⟩ (.bool false)).setCell ⟨gb226, 1, none⟩ (.int .i64 0)).setCell ⟨gb226, 2, none⟩ (.int .i64 0)).setCell ⟨gb226, 3, none⟩ (.int .i64 0)).setCell ⟨gb226, 2, none⟩ (.int .i64 2199023255552)).setCell ⟨gb226, 1, none⟩ (.int .i64 (wrap64 (a0_1 - t225)))).heap[gb226]? = some (.cells #[.bool false, .int .i64 (wrap64 (a0_1 - t225)), .int .i64 2199023255552, .int .i64 0] 32 (0, 0))) := ⟨by (with_reducible repeat (first | refine blk_drewN ?_ _ | refine blk_drew ?_ | refine blk_alloc ?_ _)); refine blk_put (cs := #[.bool false, .int .i64 0, .int .i64 2199023255552, .int .i64 0]) ?_ 1 _ rfl; (with_reducible repeat (first | refine blk_drewN ?_ _ | refine blk_drew ?_ | refine blk_alloc ?_ _)); refine blk_put (cs := #[.bool false, .int .i64 0, .int .i64 0, .int .i64 0]) ?_ 2 _ rfl; (with_reducible repeat (first | refine blk_drewN ?_ _ | refine blk_drew ?_ | refine blk_alloc ?_ _)); refine blk_put (cs := #[.bool false, .int .i64 0, .int .i64 0, .int .i64 0]) ?_ 3 _ rfl; (with_reducible repeat (first | refine blk_drewN ?_ _ | refine blk_drew ?_ | refine blk_alloc ?_ _)); refine blk_put (cs := #[.bool false, .int .i64 0, .int .i64 0, .int .i64 0]) ?_ 2 _ rfl; (with_reducible repeat (first | refine blk_drewN ?_ _ | refine blk_drew ?_ | refine blk_alloc ?_ _)); refine blk_put (cs := #[.bool false, .int .i64 0, .int .i64 0, .int .i64 0]) ?_ 1 _ rfl; (with_reducible repeat (first | refine blk_drewN ?_ _ | refine blk_drew ?_ | refine blk_alloc ?_ _)); refine blk_put (cs := #[.bool false, .int .i64 0, .int .i64 0, .int .i64 0]) ?_ 0 _ rfl; (with_reducible repeat (first | refine blk_drewN ?_ _ | refine blk_drew ?_ | refine blk_alloc ?_ _)); exact BK226.out⟩
                have n7_ : Aside0 (Below w.heap.size w ((((((w147.setCell ⟨gb226, 0, none⟩ (.bool false)).setCell ⟨gb226, 1, none⟩ (.int .i64 0)).setCell ⟨gb226, 2, none⟩ (.int .i64 0)).setCell ⟨gb226, 3, none⟩ (.int .i64 0)).setCell ⟨gb226, 2, none⟩ (.int .i64 2199023255552)).setCell ⟨gb226, 1, none⟩ (.int .i64 (wrap64 (a0_1 - t225))))) := ⟨bl HB⟩
                (try clear HO_220002)
                (try clear HO_220003)
                (try clear BK218)
                (try clear BK219)
                (try clear BK220)
                (try clear BK221)
                (try clear BK226)
                (try clear HB)
                generalize ((((((w147.setCell ⟨gb226, 0, none⟩ (.bool false)).setCell ⟨gb226, 1, none⟩ (.int .i64 0)).setCell ⟨gb226, 2, none⟩ (.int .i64 0)).setCell ⟨gb226, 3, none⟩ (.int .i64 0)).setCell ⟨gb226, 2, none⟩ (.int .i64 2199023255552)).setCell ⟨gb226, 1, none⟩ (.int .i64 (wrap64 (a0_1 - t225)))) = w154 at n0_ n1_ n2_ n3_ n4_ n5_ n6_ n7_ ⊢
                have HO_220002 := n0_
                have HO_220003 := n1_
                have BK218 := n2_
                have BK219 := n3_
                have BK220 := n4_
                have BK221 := n5_
                have BK226 := n6_
                have HB := n7_
                clear n0_ n1_ n2_ n3_ n4_ n5_ n6_ n7_
                replace HO_220002 := Aside0.mk (Kd.V_drew HO_220002.out)
                replace HO_220003 := Aside0.mk (Kd.V_drew HO_220003.out)
                replace BK218 := Aside0.mk (blk_drew BK218.out)
                replace BK219 := Aside0.mk (blk_drew BK219.out)
                replace BK220 := Aside0.mk (blk_drew BK220.out)
                replace BK221 := Aside0.mk (blk_drew BK221.out)
                replace BK226 := Aside0.mk (blk_drew BK226.out)
                replace HB := Aside0.mk (below_drew1 HB.out)
                refine start_ (n := 6) (S := fun w' => w'.cell? ⟨gb226, 0, none⟩ = some (.bool false) ∧ w'.cell? ⟨gb226, 1, none⟩ = some (.int .i64 (wrap64 (a0_1 - t225))) ∧ w'.cell? ⟨gb226, 2, none⟩ = some (.int .i64 2199023255552) ∧ w'.cell? ⟨gb226, 3, none⟩ = some (.int .i64 0)) (ds := []) #[false, false, false, false, false, false] (by kernel_rfl) rfl rfl ⟨(blk_cell BK226.out 0).trans rfl, (blk_cell BK226.out 1).trans rfl, (blk_cell BK226.out 2).trans rfl, (blk_cell BK226.out 3).trans rfl⟩ (fun hHeld => ?_)
                generalize w154.drew = w155 at HO_220002 HO_220003 BK218 BK219 BK220 BK221 BK226 HB hHeld ⊢
                refine pureB 0 75 ?_
                refine pureB 1 76 ?_
                refine pureB 2 77 ?_
                refine takeB' 3 78 hHeld ?_
                refine one_ (i := 4) (N := none) #[true, true, true, true, true, false] rfl rfl (by kernel_rfl) (by decide) (fun K hK => ?_)
                have hs156 : w155.cell? ⟨gb220, 0, none⟩ = some (.int .i64 0) := (blk_cell BK220.out 0).trans rfl
                have hfs156 := blk_frozen BK220.out 0
                have hns156_0 := NB218_220.out
                have hns156_1 := NB219_220.out
                have hns156_3 := NB221_220.out
                have hns156_4 := NB226_220.out
                have hms156_0 := NB220_218.out
                have hms156_1 := NB220_219.out
                have hms156_3 := NB220_221.out
                have hms156_4 := NB220_226.out
                have hs157 : w155.cell? ⟨gb220, 1, none⟩ = some (.int .i64 0) := (blk_cell BK220.out 1).trans rfl
                have hfs157 := blk_frozen BK220.out 1
                have hns157_0 := NB218_220.out
                have hns157_1 := NB219_220.out
                have hns157_3 := NB221_220.out
                have hns157_4 := NB226_220.out
                have hms157_0 := NB220_218.out
                have hms157_1 := NB220_219.out
                have hms157_3 := NB220_221.out
                have hms157_4 := NB220_226.out
                have hs158 : w155.cell? ⟨gb220, 2, none⟩ = some (.slice none 0 0) := (blk_cell BK220.out 2).trans rfl
                have hfs158 := blk_frozen BK220.out 2
                have hns158_0 := NB218_220.out
                have hns158_1 := NB219_220.out
                have hns158_3 := NB221_220.out
                have hns158_4 := NB226_220.out
                have hms158_0 := NB220_218.out
                have hms158_1 := NB220_219.out
                have hms158_3 := NB220_221.out
                have hms158_4 := NB220_226.out
                have hs159 : w155.cell? ⟨gb220, 3, none⟩ = some (.slice none 0 0) := (blk_cell BK220.out 3).trans rfl
                have hfs159 := blk_frozen BK220.out 3
                have hns159_0 := NB218_220.out
                have hns159_1 := NB219_220.out
                have hns159_3 := NB221_220.out
                have hns159_4 := NB226_220.out
                have hms159_0 := NB220_218.out
                have hms159_1 := NB220_219.out
                have hms159_3 := NB220_221.out
                have hms159_4 := NB220_226.out
                refine skip_ (w1 := ?_) (by rfl) rfl ?_ ?_
                rotate_left
                · go_simp
                  rfl
                refine hK.out _ _ ⟨((cell_far (p := ⟨gb220, _, none⟩) NB226_220.out _).trans (((cell_far (p := ⟨gb220, _, none⟩) NB226_220.out _).trans (((cell_far (p := ⟨gb220, _, none⟩) NB226_220.out _).trans (((cell_far (p := ⟨gb220, _, none⟩) NB226_220.out _).trans (hHeld.1)))))))), ((cell_far (p := ⟨gb220, _, none⟩) NB226_220.out _).trans (((cell_far (p := ⟨gb220, _, none⟩) NB226_220.out _).trans (((cell_far (p := ⟨gb220, _, none⟩) NB226_220.out _).trans (((cell_far (p := ⟨gb220, _, none⟩) NB226_220.out _).trans (hHeld.2.1)))))))), ((cell_far (p := ⟨gb220, _, none⟩) NB226_220.out _).trans (((cell_far (p := ⟨gb220, _, none⟩) NB226_220.out _).trans (((cell_far (p := ⟨gb220, _, none⟩) NB226_220.out _).trans (((cell_far (p := ⟨gb220, _, none⟩) NB226_220.out _).trans (hHeld.2.2.1)))))))), ((cell_far (p := ⟨gb220, _, none⟩) NB226_220.out _).trans (((cell_far (p := ⟨gb220, _, none⟩) NB226_220.out _).trans (((cell_far (p := ⟨gb220, _, none⟩) NB226_220.out _).trans (((cell_far (p := ⟨gb220, _, none⟩) NB226_220.out _).trans (hHeld.2.2.2))))))))⟩ (fun hHeld => ?_)
                clear hK K
                refine one_ (i := 5) (N := none) #[true, true, true, true, true, true] rfl rfl (by kernel_rfl) (by decide) (fun K hK => ?_)
                have hs160 : w155.cell? ⟨gb221, 0, none⟩ = some (.bool false) := (blk_cell BK221.out 0).trans rfl
                have hfs160 := blk_frozen BK221.out 0
                have hns160_0 := NB218_221.out
                have hns160_1 := NB219_221.out
                have hns160_2 := NB220_221.out
                have hns160_4 := NB226_221.out
                have hms160_0 := NB221_218.out
                have hms160_1 := NB221_219.out
                have hms160_2 := NB221_220.out
                have hms160_4 := NB221_226.out
                have hs161 : w155.cell? ⟨gb221, 1, none⟩ = some (.int .i64 0) := (blk_cell BK221.out 1).trans rfl
                have hfs161 := blk_frozen BK221.out 1
                have hns161_0 := NB218_221.out
                have hns161_1 := NB219_221.out
                have hns161_2 := NB220_221.out
                have hns161_4 := NB226_221.out
                have hms161_0 := NB221_218.out
                have hms161_1 := NB221_219.out
                have hms161_2 := NB221_220.out
                have hms161_4 := NB221_226.out
                have hs162 : w155.cell? ⟨gb221, 2, none⟩ = some (.int .i64 0) := (blk_cell BK221.out 2).trans rfl
                have hfs162 := blk_frozen BK221.out 2
                have hns162_0 := NB218_221.out
                have hns162_1 := NB219_221.out
                have hns162_2 := NB220_221.out
                have hns162_4 := NB226_221.out
                have hms162_0 := NB221_218.out
                have hms162_1 := NB221_219.out
                have hms162_2 := NB221_220.out
                have hms162_4 := NB221_226.out
                have hs163 : w155.cell? ⟨gb221, 3, none⟩ = some (.int .i64 0) := (blk_cell BK221.out 3).trans rfl
                have hfs163 := blk_frozen BK221.out 3
                have hns163_0 := NB218_221.out
                have hns163_1 := NB219_221.out
                have hns163_2 := NB220_221.out
                have hns163_4 := NB226_221.out
                have hms163_0 := NB221_218.out
                have hms163_1 := NB221_219.out
                have hms163_2 := NB221_220.out
                have hms163_4 := NB221_226.out
                refine skip_ (w1 := ?_) (by rfl) rfl ?_ ?_
                rotate_left
                · go_simp
                  rfl
                refine hK.out _ _ ⟨((cell_far (p := ⟨gb221, _, none⟩) NB226_221.out _).trans (((cell_far (p := ⟨gb221, _, none⟩) NB226_221.out _).trans (((cell_far (p := ⟨gb221, _, none⟩) NB226_221.out _).trans (((cell_far (p := ⟨gb221, _, none⟩) NB226_221.out _).trans (hHeld.1)))))))), ((cell_far (p := ⟨gb221, _, none⟩) NB226_221.out _).trans (((cell_far (p := ⟨gb221, _, none⟩) NB226_221.out _).trans (((cell_far (p := ⟨gb221, _, none⟩) NB226_221.out _).trans (((cell_far (p := ⟨gb221, _, none⟩) NB226_221.out _).trans (hHeld.2.1)))))))), ((cell_far (p := ⟨gb221, _, none⟩) NB226_221.out _).trans (((cell_far (p := ⟨gb221, _, none⟩) NB226_221.out _).trans (((cell_far (p := ⟨gb221, _, none⟩) NB226_221.out _).trans (((cell_far (p := ⟨gb221, _, none⟩) NB226_221.out _).trans (hHeld.2.2.1)))))))), ((cell_far (p := ⟨gb221, _, none⟩) NB226_221.out _).trans (((cell_far (p := ⟨gb221, _, none⟩) NB226_221.out _).trans (((cell_far (p := ⟨gb221, _, none⟩) NB226_221.out _).trans (((cell_far (p := ⟨gb221, _, none⟩) NB226_221.out _).trans (hHeld.2.2.2))))))))⟩ (fun hHeld => ?_)
                clear hK K
                refine done_ (by kernel_rfl) ?_
                try go_wp2
                refine bodyPost_ret (results_cc rfl _ _ gb220 gb221 27 32 #[.int .i64 ji49, .int .i64 t225, .slice none 0 0, .slice none 0 0] #[.bool false, .int .i64 (wrap64 (a0_1 - t225)), .int .i64 2199023255552, .int .i64 0] (0, 0) (0, 0) _ _ rfl (by (with_reducible repeat (first | refine blk_drewN ?_ _ | refine blk_drew ?_ | refine blk_alloc ?_ _)); refine blk_far ?_ NB220_221.out _; (with_reducible repeat (first | refine blk_drewN ?_ _ | refine blk_drew ?_ | refine blk_alloc ?_ _)); refine blk_far ?_ NB220_221.out _; (with_reducible repeat (first | refine blk_drewN ?_ _ | refine blk_drew ?_ | refine blk_alloc ?_ _)); refine blk_far ?_ NB220_221.out _; (with_reducible repeat (first | refine blk_drewN ?_ _ | refine blk_drew ?_ | refine blk_alloc ?_ _)); refine blk_far ?_ NB220_221.out _; (with_reducible repeat (first | refine blk_drewN ?_ _ | refine blk_drew ?_ | refine blk_alloc ?_ _)); refine blk_put (cs := #[.int .i64 ji49, .int .i64 t225, .slice none 0 0, .slice none 0 0]) ?_ 3 _ rfl; (with_reducible repeat (first | refine blk_drewN ?_ _ | refine blk_drew ?_ | refine blk_alloc ?_ _)); refine blk_put (cs := #[.int .i64 ji49, .int .i64 t225, .slice none 0 0, .slice none 0 0]) ?_ 2 _ rfl; (with_reducible repeat (first | refine blk_drewN ?_ _ | refine blk_drew ?_ | refine blk_alloc ?_ _)); refine blk_put (cs := #[.int .i64 ji49, .int .i64 0, .slice none 0 0, .slice none 0 0]) ?_ 1 _ rfl; (with_reducible repeat (first | refine blk_drewN ?_ _ | refine blk_drew ?_ | refine blk_alloc ?_ _)); refine blk_put (cs := #[.int .i64 0, .int .i64 0, .slice none 0 0, .slice none 0 0]) ?_ 0 _ rfl; (with_reducible repeat (first | refine blk_drewN ?_ _ | refine blk_drew ?_ | refine blk_alloc ?_ _)); exact BK220.out) Try.underlying27 rfl (by kernel_rfl) rfl (by (with_reducible repeat (first | refine blk_drewN ?_ _ | refine blk_drew ?_ | refine blk_alloc ?_ _)); refine blk_put (cs := #[.bool false, .int .i64 (wrap64 (a0_1 - t225)), .int .i64 2199023255552, .int .i64 0]) ?_ 3 _ rfl; (with_reducible repeat (first | refine blk_drewN ?_ _ | refine blk_drew ?_ | refine blk_alloc ?_ _)); refine blk_put (cs := #[.bool false, .int .i64 (wrap64 (a0_1 - t225)), .int .i64 0, .int .i64 0]) ?_ 2 _ rfl; (with_reducible repeat (first | refine blk_drewN ?_ _ | refine blk_drew ?_ | refine blk_alloc ?_ _)); refine blk_put (cs := #[.bool false, .int .i64 0, .int .i64 0, .int .i64 0]) ?_ 1 _ rfl; (with_reducible repeat (first | refine blk_drewN ?_ _ | refine blk_drew ?_ | refine blk_alloc ?_ _)); refine blk_put (cs := #[.bool false, .int .i64 0, .int .i64 0, .int .i64 0]) ?_ 0 _ rfl; (with_reducible repeat (first | refine blk_drewN ?_ _ | refine blk_drew ?_ | refine blk_alloc ?_ _)); refine blk_far ?_ NB221_220.out _; (with_reducible repeat (first | refine blk_drewN ?_ _ | refine blk_drew ?_ | refine blk_alloc ?_ _)); refine blk_far ?_ NB221_220.out _; (with_reducible repeat (first | refine blk_drewN ?_ _ | refine blk_drew ?_ | refine blk_alloc ?_ _)); refine blk_far ?_ NB221_220.out _; (with_reducible repeat (first | refine blk_drewN ?_ _ | refine blk_drew ?_ | refine blk_alloc ?_ _)); refine blk_far ?_ NB221_220.out _; (with_reducible repeat (first | refine blk_drewN ?_ _ | refine blk_drew ?_ | refine blk_alloc ?_ _)); exact BK221.out) Try.underlying32 rfl (by kernel_rfl)) rfl ?_
                exact ⟨_, _, by first | (with_reducible rfl) | (simp only [← hji49]; with_reducible rfl) | (simp only [← hji49]; done) | rfl | (simp [errW_none, errW_some] <;> rfl) | (simp only [← hji49]; first | rfl | (simp [errW_none, errW_some] <;> rfl)) | (simp [*, errW_none, errW_some] <;> rfl), Kd.V_nil _ _ _ _ _, Kd.V_nil _ _ _ _ _, bl HB⟩
            · rw [if_neg c108] at H
              have c108b0 : decide (a0_1 < a3) = false := decide_eq_false c108
              clear c108
              by_cases c164 : t225 > 0
              · rw [if_pos c164] at H
                have c164b0 : decide (0 < t225) = true := decide_eq_true c164
                clear c164
                simp only [Option.some.injEq, Prod.mk.injEq] at H
                obtain ⟨rfl, rfl, rfl, rfl, rfl, rfl, rfl, rfl⟩ := H
                have hnb165 := NB219_218.out
                have hnc165 := NB218_219.out
                have hnb166 := NB219_220.out
                have hnc166 := NB220_219.out
                have hnb167 := NB219_221.out
                have hnc167 := NB221_219.out
                obtain ⟨hcz168_0, hcz168_1, hcz168_2, hcz168_3⟩ := ce4 BK219
                obtain ⟨hfz168_0, hfz168_1, hfz168_2, hfz168_3⟩ := fr4 BK219
                have hnb169 := NB218_220.out
                have hnc169 := NB220_218.out
                have hnb170 := NB218_221.out
                have hnc170 := NB221_218.out
                obtain ⟨hcz171_0, hcz171_1, hcz171_2, hcz171_3⟩ := ce4 BK218
                obtain ⟨hfz171_0, hfz171_1, hfz171_2, hfz171_3⟩ := fr4 BK218
                try go_wp2_with (first | ((with_reducible refine gate_callee (f := 16) rfl ?_); refine goesL_ (some 36) rfl rfl Try.func16 (by kernel_rfl) rfl #[.agg #[.int .i64 a0_0, .int .i64 a0_1, .int .i64 a0_2, .int .i64 a0_3], .agg #[.int .i64 a1_0, .int .i64 a1_1, .slice A1_2 l1_2.length c1_2, .slice A1_3 l1_3.length c1_3], .int .i64 ji49] rfl (by (try simp only [List.map_toArray, List.map_cons, List.map_nil]); first | done | (simp only [hji49]; rfl) | rfl | (simp only [List.length_drop, List.length_take]; rfl)) ?_; (with_reducible refine (sandglassref11_Total.calls kj4 a0_0 a0_1 a0_2 a0_3 a1_0 a1_1 _ _ l1_2 _ _ l1_3 ji49 t225 _ ?side1 ?side2 ?side3 ?side4 A50.out).mono ?_); (case side1 => repeat (first | exact (Kd.V_reads' HO_220002.out).2.2 | (with_reducible refine Kd.C_alloc ?_ _) | (with_reducible refine Kd.C_drewN ?_ _) | (with_reducible refine Kd.C_drew ?_))); (case side2 => exact (Kd.V_reads' HO_220002.out).2.1); (case side3 => repeat (first | exact (Kd.V_reads' HO_220003.out).2.2 | (with_reducible refine Kd.C_alloc ?_ _) | (with_reducible refine Kd.C_drewN ?_ _) | (with_reducible refine Kd.C_drew ?_))); (case side4 => exact (Kd.V_reads' HO_220003.out).2.1); rintro e w172 ⟨rfl, hb⟩; refine ⟨_, rfl, ?_⟩; replace HO_220002 := vb HO_220002 hb; replace HO_220003 := vb HO_220003 hb; replace BK218 := Aside0.mk (blk_below (bo BK218) hb); replace BK219 := Aside0.mk (blk_below (bo BK219) hb); replace BK220 := Aside0.mk (blk_below (bo BK220) hb); replace BK221 := Aside0.mk (blk_below (bo BK221) hb); replace HB := Aside0.mk (below_step (bl HB) hb); (try clear hb); (try clear hb2); (try clear hk); (try clear hi)))
                replace HO_220002 := Aside0.mk (Kd.V_drew HO_220002.out)
                replace HO_220003 := Aside0.mk (Kd.V_drew HO_220003.out)
                replace BK218 := Aside0.mk (blk_drew BK218.out)
                replace BK219 := Aside0.mk (blk_drew BK219.out)
                replace BK220 := Aside0.mk (blk_drew BK220.out)
                replace BK221 := Aside0.mk (blk_drew BK221.out)
                replace HB := Aside0.mk (below_drew1 HB.out)
                refine start_ (n := 11) (S := fun w' => w'.cell? ⟨gb218, 0, none⟩ = some (.int .i64 a0_0) ∧ w'.cell? ⟨gb218, 1, none⟩ = some (.int .i64 a0_1) ∧ w'.cell? ⟨gb218, 2, none⟩ = some (.int .i64 a0_2) ∧ w'.cell? ⟨gb218, 3, none⟩ = some (.int .i64 a0_3)) (ds := []) #[false, false, false, false, false, false, false, false, false, false, false] (by kernel_rfl) rfl rfl ⟨(blk_cell BK218.out 0).trans rfl, (blk_cell BK218.out 1).trans rfl, (blk_cell BK218.out 2).trans rfl, (blk_cell BK218.out 3).trans rfl⟩ (fun hHeld => ?_); refine with_tabW sandglassref11_Ask.tab5 sandglassref11_Ask.bits5 (fun HT_ HW_ => ?_)
                generalize w172.drew = w173 at HO_220002 HO_220003 BK218 BK219 BK220 BK221 HB hHeld ⊢
                refine pureA 0 37 HT_ ?_
                refine pureA 2 39 HT_ ?_
                refine pureA 3 40 HT_ ?_
                refine pureA 8 45 HT_ ?_
                refine takeA 1 38 HT_ HW_ hHeld ?_
                refine takeA 4 41 HT_ HW_ hHeld ?_
                refine pureA 5 42 HT_ ?_
                refine pureA 6 43 HT_ ?_
                refine pureA 7 44 HT_ ?_
                refine pureA 9 46 HT_ ?_
                refine pureA 10 11 HT_ ?_
                refine done_ (done_of HT_.out (by kernel_rfl)) ?_
                obtain ⟨hcz174_0, hcz174_1, hcz174_2, hcz174_3⟩ := ce4 BK218
                obtain ⟨hfz174_0, hfz174_1, hfz174_2, hfz174_3⟩ := fr4 BK218
                try go_wp2_with (first | ((with_reducible refine gate_dst (N := 12) rfl ?_); refine box_event ?hg (N := 12) ?hd (cs := #[.bool false, .int .i64 0, .int .i64 0, .int .i64 0]) (t := 32) ?hr ?_; (case hd => rfl); (case hg => rfl); (case hr => first | (go_simp; done) | (go_simp; rfl)); intro gb226 hg w175 hbox hb; have BK226 := Aside0.mk (hbox); have GW226 := Aside0.mk ((by rw [hg]; exact (below_size (bl HB)) : w.heap.size ≤ gb226)); have GE226 := Aside0.mk ((by rw [hg]; exact (below_size (bl HB)) : w.heap.size ≤ gb226)); have NB218_226 := nb BK218 hg; have NB226_218 := bn BK218 hg; have NB219_226 := nb BK219 hg; have NB226_219 := bn BK219 hg; have NB220_226 := nb BK220 hg; have NB226_220 := bn BK220 hg; have NB221_226 := nb BK221 hg; have NB226_221 := bn BK221 hg; replace HO_220002 := ve HO_220002 hg hb; replace HO_220003 := ve HO_220003 hg hb; replace BK218 := Aside0.mk (blk_below (bo BK218) hb); replace BK219 := Aside0.mk (blk_below (bo BK219) hb); replace BK220 := Aside0.mk (blk_below (bo BK220) hb); replace BK221 := Aside0.mk (blk_below (bo BK221) hb); replace HB := Aside0.mk (below_step (bl HB) hb); clear hb hbox hg; have hnb176 := NB226_218.out; have hnc176 := NB218_226.out; have hnb177 := NB226_219.out; have hnc177 := NB219_226.out; have hnb178 := NB226_220.out; have hnc178 := NB220_226.out; have hnb179 := NB226_221.out; have hnc179 := NB221_226.out; obtain ⟨hcz180_0, hcz180_1, hcz180_2, hcz180_3⟩ := ce4 BK226; obtain ⟨hfz180_0, hfz180_1, hfz180_2, hfz180_3⟩ := fr4 BK226; obtain ⟨hcz181_0, hcz181_1, hcz181_2, hcz181_3⟩ := ce4 BK218; obtain ⟨hfz181_0, hfz181_1, hfz181_2, hfz181_3⟩ := fr4 BK218))
                have n0_ : Aside0 (Kd.V (Kd.int .i64) 3 (((((((w175.setCell ⟨gb226, 0, none⟩ (.bool false)).setCell ⟨gb226, 1, none⟩ (.int .i64 0)).setCell ⟨gb226, 2, none⟩ (.int .i64 0)).setCell ⟨gb226, 3, none⟩ (.int .i64 0)).setCell ⟨gb226, 2, none⟩ (.int .i64 (wrap64 ((wrap64 (a0_2 * (wrap64 ((wrap64 (Int.tdiv (ji49) a0_2)) + 1)))) - (ji49))))).setCell ⟨gb226, 1, none⟩ (.int .i64 (wrap64 (a0_1 - t225)))).setCell ⟨gb226, 3, none⟩ (.int .i64 (wrap64 ((wrap64 (a0_2 * (wrap64 ((wrap64 (Int.tdiv (ji49) a0_2)) + 1)))) - (ji49))))) w.heap.size (fun k_ => ((P1_2_ k_ ∨ P1_3_ k_) ∨ w.heap.size ≤ k_) ∧ k_ ≠ gb218 ∧ k_ ≠ gb219 ∧ k_ ≠ gb220 ∧ k_ ≠ gb221 ∧ k_ ≠ gb226) (.slice A1_2 l1_2.length c1_2) l1_2) := ⟨by (with_reducible repeat (first | apply Kd.V_alloc | apply Kd.V_drewN | apply Kd.V_drew)); exact Kd.V_mono (Kd.V_far (p := ⟨gb226, 3, none⟩) (Kd.V_far (p := ⟨gb226, 1, none⟩) (Kd.V_far (p := ⟨gb226, 2, none⟩) (Kd.V_far (p := ⟨gb226, 3, none⟩) (Kd.V_far (p := ⟨gb226, 2, none⟩) (Kd.V_far (p := ⟨gb226, 1, none⟩) (Kd.V_far (p := ⟨gb226, 0, none⟩) (Kd.V_mono HO_220002.out (fun k_ hk => (⟨hk, hk.2⟩ : _ ∧ k_ ≠ gb226))) (fun _ hk => hk.2) (.bool false)) (fun _ hk => hk.2) (.int .i64 0)) (fun _ hk => hk.2) (.int .i64 0)) (fun _ hk => hk.2) (.int .i64 0)) (fun _ hk => hk.2) (.int .i64 (wrap64 ((wrap64 (a0_2 * (wrap64 ((wrap64 (Int.tdiv (ji49) a0_2)) + 1)))) - (ji49))))) (fun _ hk => hk.2) (.int .i64 (wrap64 (a0_1 - t225)))) (fun _ hk => hk.2) (.int .i64 (wrap64 ((wrap64 (a0_2 * (wrap64 ((wrap64 (Int.tdiv (ji49) a0_2)) + 1)))) - (ji49))))) (fun _ hk => ⟨hk.1.1.1, ⟨hk.1.1.2.1, ⟨hk.1.1.2.2.1, ⟨hk.1.1.2.2.2.1, ⟨hk.1.1.2.2.2.2, hk.1.2⟩⟩⟩⟩⟩)⟩
                have n1_ : Aside0 (Kd.V k53 53 (((((((w175.setCell ⟨gb226, 0, none⟩ (.bool false)).setCell ⟨gb226, 1, none⟩ (.int .i64 0)).setCell ⟨gb226, 2, none⟩ (.int .i64 0)).setCell ⟨gb226, 3, none⟩ (.int .i64 0)).setCell ⟨gb226, 2, none⟩ (.int .i64 (wrap64 ((wrap64 (a0_2 * (wrap64 ((wrap64 (Int.tdiv (ji49) a0_2)) + 1)))) - (ji49))))).setCell ⟨gb226, 1, none⟩ (.int .i64 (wrap64 (a0_1 - t225)))).setCell ⟨gb226, 3, none⟩ (.int .i64 (wrap64 ((wrap64 (a0_2 * (wrap64 ((wrap64 (Int.tdiv (ji49) a0_2)) + 1)))) - (ji49))))) w.heap.size (fun k_ => ((P1_2_ k_ ∨ P1_3_ k_) ∨ w.heap.size ≤ k_) ∧ k_ ≠ gb218 ∧ k_ ≠ gb219 ∧ k_ ≠ gb220 ∧ k_ ≠ gb221 ∧ k_ ≠ gb226) (.slice A1_3 l1_3.length c1_3) l1_3) := ⟨by (with_reducible repeat (first | apply Kd.V_alloc | apply Kd.V_drewN | apply Kd.V_drew)); exact Kd.V_mono (Kd.V_far (p := ⟨gb226, 3, none⟩) (Kd.V_far (p := ⟨gb226, 1, none⟩) (Kd.V_far (p := ⟨gb226, 2, none⟩) (Kd.V_far (p := ⟨gb226, 3, none⟩) (Kd.V_far (p := ⟨gb226, 2, none⟩) (Kd.V_far (p := ⟨gb226, 1, none⟩) (Kd.V_far (p := ⟨gb226, 0, none⟩) (Kd.V_mono HO_220003.out (fun k_ hk => (⟨hk, hk.2⟩ : _ ∧ k_ ≠ gb226))) (fun _ hk => hk.2) (.bool false)) (fun _ hk => hk.2) (.int .i64 0)) (fun _ hk => hk.2) (.int .i64 0)) (fun _ hk => hk.2) (.int .i64 0)) (fun _ hk => hk.2) (.int .i64 (wrap64 ((wrap64 (a0_2 * (wrap64 ((wrap64 (Int.tdiv (ji49) a0_2)) + 1)))) - (ji49))))) (fun _ hk => hk.2) (.int .i64 (wrap64 (a0_1 - t225)))) (fun _ hk => hk.2) (.int .i64 (wrap64 ((wrap64 (a0_2 * (wrap64 ((wrap64 (Int.tdiv (ji49) a0_2)) + 1)))) - (ji49))))) (fun _ hk => ⟨hk.1.1.1, ⟨hk.1.1.2.1, ⟨hk.1.1.2.2.1, ⟨hk.1.1.2.2.2.1, ⟨hk.1.1.2.2.2.2, hk.1.2⟩⟩⟩⟩⟩)⟩
                have n2_ : Aside0 ((((((((w175.setCell ⟨gb226, 0, none⟩ (.bool false)).setCell ⟨gb226, 1, none⟩ (.int .i64 0)).setCell ⟨gb226, 2, none⟩ (.int .i64 0)).setCell ⟨gb226, 3, none⟩ (.int .i64 0)).setCell ⟨gb226, 2, none⟩ (.int .i64 (wrap64 ((wrap64 (a0_2 * (wrap64 ((wrap64 (Int.tdiv (ji49) a0_2)) + 1)))) - (ji49))))).setCell ⟨gb226, 1, none⟩ (.int .i64 (wrap64 (a0_1 - t225)))).setCell ⟨gb226, 3, none⟩ (.int .i64 (wrap64 ((wrap64 (a0_2 * (wrap64 ((wrap64 (Int.tdiv (ji49) a0_2)) + 1)))) - (ji49))))).heap[gb218]? = some (.cells #[.int .i64 a0_0, .int .i64 a0_1, .int .i64 a0_2, .int .i64 a0_3] 23 (0, 0))) := ⟨by (with_reducible repeat (first | refine blk_drewN ?_ _ | refine blk_drew ?_ | refine blk_alloc ?_ _)); refine blk_far ?_ NB218_226.out _; (with_reducible repeat (first | refine blk_drewN ?_ _ | refine blk_drew ?_ | refine blk_alloc ?_ _)); refine blk_far ?_ NB218_226.out _; (with_reducible repeat (first | refine blk_drewN ?_ _ | refine blk_drew ?_ | refine blk_alloc ?_ _)); refine blk_far ?_ NB218_226.out _; (with_reducible repeat (first | refine blk_drewN ?_ _ | refine blk_drew ?_ | refine blk_alloc ?_ _)); refine blk_far ?_ NB218_226.out _; (with_reducible repeat (first | refine blk_drewN ?_ _ | refine blk_drew ?_ | refine blk_alloc ?_ _)); refine blk_far ?_ NB218_226.out _; (with_reducible repeat (first | refine blk_drewN ?_ _ | refine blk_drew ?_ | refine blk_alloc ?_ _)); refine blk_far ?_ NB218_226.out _; (with_reducible repeat (first | refine blk_drewN ?_ _ | refine blk_drew ?_ | refine blk_alloc ?_ _)); refine blk_far ?_ NB218_226.out _; (with_reducible repeat (first | refine blk_drewN ?_ _ | refine blk_drew ?_ | refine blk_alloc ?_ _)); exact BK218.out⟩
                have n3_ : Aside0 ((((((((w175.setCell ⟨gb226, 0, none⟩ (.bool false)).setCell ⟨gb226, 1, none⟩ (.int .i64 0)).setCell ⟨gb226, 2, none⟩ (.int .i64 0)).setCell ⟨gb226, 3, none⟩ (.int .i64 0)).setCell ⟨gb226, 2, none⟩ (.int .i64 (wrap64 ((wrap64 (a0_2 * (wrap64 ((wrap64 (Int.tdiv (ji49) a0_2)) + 1)))) - (ji49))))).setCell ⟨gb226, 1, none⟩ (.int .i64 (wrap64 (a0_1 - t225)))).setCell ⟨gb226, 3, none⟩ (.int .i64 (wrap64 ((wrap64 (a0_2 * (wrap64 ((wrap64 (Int.tdiv (ji49) a0_2)) + 1)))) - (ji49))))).heap[gb219]? = some (.cells #[.int .i64 a1_0, .int .i64 a1_1, .slice A1_2 l1_2.length c1_2, .slice A1_3 l1_3.length c1_3] 27 (0, 0))) := ⟨by (with_reducible repeat (first | refine blk_drewN ?_ _ | refine blk_drew ?_ | refine blk_alloc ?_ _)); refine blk_far ?_ NB219_226.out _; (with_reducible repeat (first | refine blk_drewN ?_ _ | refine blk_drew ?_ | refine blk_alloc ?_ _)); refine blk_far ?_ NB219_226.out _; (with_reducible repeat (first | refine blk_drewN ?_ _ | refine blk_drew ?_ | refine blk_alloc ?_ _)); refine blk_far ?_ NB219_226.out _; (with_reducible repeat (first | refine blk_drewN ?_ _ | refine blk_drew ?_ | refine blk_alloc ?_ _)); refine blk_far ?_ NB219_226.out _; (with_reducible repeat (first | refine blk_drewN ?_ _ | refine blk_drew ?_ | refine blk_alloc ?_ _)); refine blk_far ?_ NB219_226.out _; (with_reducible repeat (first | refine blk_drewN ?_ _ | refine blk_drew ?_ | refine blk_alloc ?_ _)); refine blk_far ?_ NB219_226.out _; (with_reducible repeat (first | refine blk_drewN ?_ _ | refine blk_drew ?_ | refine blk_alloc ?_ _)); refine blk_far ?_ NB219_226.out _; (with_reducible repeat (first | refine blk_drewN ?_ _ | refine blk_drew ?_ | refine blk_alloc ?_ _)); exact BK219.out⟩
                have n4_ : Aside0 ((((((((w175.setCell ⟨gb226, 0, none⟩ (.bool false)).setCell ⟨gb226, 1, none⟩ (.int .i64 0)).setCell ⟨gb226, 2, none⟩ (.int .i64 0)).setCell ⟨gb226, 3, none⟩ (.int .i64 0)).setCell ⟨gb226, 2, none⟩ (.int .i64 (wrap64 ((wrap64 (a0_2 * (wrap64 ((wrap64 (Int.tdiv (ji49) a0_2)) + 1)))) - (ji49))))).setCell ⟨gb226, 1, none⟩ (.int .i64 (wrap64 (a0_1 - t225)))).setCell ⟨gb226, 3, none⟩ (.int .i64 (wrap64 ((wrap64 (a0_2 * (wrap64 ((wrap64 (Int.tdiv (ji49) a0_2)) + 1)))) - (ji49))))).heap[gb220]? = some (.cells #[.int .i64 0, .int .i64 0, .slice none 0 0, .slice none 0 0] 27 (0, 0))) := ⟨by (with_reducible repeat (first | refine blk_drewN ?_ _ | refine blk_drew ?_ | refine blk_alloc ?_ _)); refine blk_far ?_ NB220_226.out _; (with_reducible repeat (first | refine blk_drewN ?_ _ | refine blk_drew ?_ | refine blk_alloc ?_ _)); refine blk_far ?_ NB220_226.out _; (with_reducible repeat (first | refine blk_drewN ?_ _ | refine blk_drew ?_ | refine blk_alloc ?_ _)); refine blk_far ?_ NB220_226.out _; (with_reducible repeat (first | refine blk_drewN ?_ _ | refine blk_drew ?_ | refine blk_alloc ?_ _)); refine blk_far ?_ NB220_226.out _; (with_reducible repeat (first | refine blk_drewN ?_ _ | refine blk_drew ?_ | refine blk_alloc ?_ _)); refine blk_far ?_ NB220_226.out _; (with_reducible repeat (first | refine blk_drewN ?_ _ | refine blk_drew ?_ | refine blk_alloc ?_ _)); refine blk_far ?_ NB220_226.out _; (with_reducible repeat (first | refine blk_drewN ?_ _ | refine blk_drew ?_ | refine blk_alloc ?_ _)); refine blk_far ?_ NB220_226.out _; (with_reducible repeat (first | refine blk_drewN ?_ _ | refine blk_drew ?_ | refine blk_alloc ?_ _)); exact BK220.out⟩
                have n5_ : Aside0 ((((((((w175.setCell ⟨gb226, 0, none⟩ (.bool false)).setCell ⟨gb226, 1, none⟩ (.int .i64 0)).setCell ⟨gb226, 2, none⟩ (.int .i64 0)).setCell ⟨gb226, 3, none⟩ (.int .i64 0)).setCell ⟨gb226, 2, none⟩ (.int .i64 (wrap64 ((wrap64 (a0_2 * (wrap64 ((wrap64 (Int.tdiv (ji49) a0_2)) + 1)))) - (ji49))))).setCell ⟨gb226, 1, none⟩ (.int .i64 (wrap64 (a0_1 - t225)))).setCell ⟨gb226, 3, none⟩ (.int .i64 (wrap64 ((wrap64 (a0_2 * (wrap64 ((wrap64 (Int.tdiv (ji49) a0_2)) + 1)))) - (ji49))))).heap[gb221]? = some (.cells #[.bool false, .int .i64 0, .int .i64 0, .int .i64 0] 32 (0, 0))) := ⟨by (with_reducible repeat (first | refine blk_drewN ?_ _ | refine blk_drew ?_ | refine blk_alloc ?_ _)); refine blk_far ?_ NB221_226.out _; (with_reducible repeat (first | refine blk_drewN ?_ _ | refine blk_drew ?_ | refine blk_alloc ?_ _)); refine blk_far ?_ NB221_226.out _; (with_reducible repeat (first | refine blk_drewN ?_ _ | refine blk_drew ?_ | refine blk_alloc ?_ _)); refine blk_far ?_ NB221_226.out _; (with_reducible repeat (first | refine blk_drewN ?_ _ | refine blk_drew ?_ | refine blk_alloc ?_ _)); refine blk_far ?_ NB221_226.out _; (with_reducible repeat (first | refine blk_drewN ?_ _ | refine blk_drew ?_ | refine blk_alloc ?_ _)); refine blk_far ?_ NB221_226.out _; (with_reducible repeat (first | refine blk_drewN ?_ _ | refine blk_drew ?_ | refine blk_alloc ?_ _)); refine blk_far ?_ NB221_226.out _; (with_reducible repeat (first | refine blk_drewN ?_ _ | refine blk_drew ?_ | refine blk_alloc ?_ _)); refine blk_far ?_ NB221_226.out _; (with_reducible repeat (first | refine blk_drewN ?_ _ | refine blk_drew ?_ | refine blk_alloc ?_ _)); exact BK221.out⟩
                have n6_ : Aside0 ((((((((w175.setCell ⟨gb226, 0, none⟩ (.bool false)).setCell ⟨gb226, 1, none⟩ (.int .i64 0)).setCell ⟨gb226, 2, none⟩ (.int .i64 0)).setCell ⟨gb226, 3, none⟩ (.int .i64 0)).setCell ⟨gb226, 2, none⟩ (.int .i64 (wrap64 ((wrap64 (a0_2 * (wrap64 ((wrap64 (Int.tdiv (ji49) a0_2)) + 1)))) - (ji49))))).setCell ⟨gb226, 1, none⟩ (.int .i64 (wrap64 (a0_1 - t225)))).setCell ⟨gb226, 3, none⟩ (.int .i64 (wrap64 ((wrap64 (a0_2 * (wrap64 ((wrap64 (Int.tdiv (ji49) a0_2)) + 1)))) - (ji49))))).heap[gb226]? = some (.cells #[.bool false, .int .i64 (wrap64 (a0_1 - t225)), .int .i64 (wrap64 ((wrap64 (a0_2 * (wrap64 ((wrap64 (Int.tdiv (ji49) a0_2)) + 1)))) - (ji49))), .int .i64 (wrap64 ((wrap64 (a0_2 * (wrap64 ((wrap64 (Int.tdiv (ji49) a0_2)) + 1)))) - (ji49)))] 32 (0, 0))) := ⟨by (with_reducible repeat (first | refine blk_drewN ?_ _ | refine blk_drew ?_ | refine blk_alloc ?_ _)); refine blk_put (cs := #[.bool false, .int .i64 (wrap64 (a0_1 - t225)), .int .i64 (wrap64 ((wrap64 (a0_2 * (wrap64 ((wrap64 (Int.tdiv (ji49) a0_2)) + 1)))) - (ji49))), .int .i64 0]) ?_ 3 _ rfl; (with_reducible repeat (first | refine blk_drewN ?_ _ | refine blk_drew ?_ | refine blk_alloc ?_ _)); refine blk_put (cs := #[.bool false, .int .i64 0, .int .i64 (wrap64 ((wrap64 (a0_2 * (wrap64 ((wrap64 (Int.tdiv (ji49) a0_2)) + 1)))) - (ji49))), .int .i64 0]) ?_ 1 _ rfl; (with_reducible repeat (first | refine blk_drewN ?_ _ | refine blk_drew ?_ | refine blk_alloc ?_ _)); refine blk_put (cs := #[.bool false, .int .i64 0, .int .i64 0, .int .i64 0]) ?_ 2 _ rfl; (with_reducible repeat (first | refine blk_drewN ?_ _ | refine blk_drew ?_ | refine blk_alloc ?_ _)); refine blk_put (cs := #[.bool false, .int .i64 0, .int .i64 0, .int .i64 0]) ?_ 3 _ rfl; (with_reducible repeat (first | refine blk_drewN ?_ _ | refine blk_drew ?_ | refine blk_alloc ?_ _)); refine blk_put (cs := #[.bool false, .int .i64 0, .int .i64 0, .int .i64 0]) ?_ 2 _ rfl; (with_reducible repeat (first | refine blk_drewN ?_ _ | refine blk_drew ?_ | refine blk_alloc ?_ _)); refine blk_put (cs := #[.bool false, .int .i64 0, .int .i64 0, .int .i64 0]) ?_ 1 _ rfl; (with_reducible repeat (first | refine blk_drewN ?_ _ | refine blk_drew ?_ | refine blk_alloc ?_ _)); refine blk_put (cs := #[.bool false, .int .i64 0, .int .i64 0, .int .i64 0]) ?_ 0 _ rfl; (with_reducible repeat (first | refine blk_drewN ?_ _ | refine blk_drew ?_ | refine blk_alloc ?_ _)); exact BK226.out⟩
                have n7_ : Aside0 (Below w.heap.size w (((((((w175.setCell ⟨gb226, 0, none⟩ (.bool false)).setCell ⟨gb226, 1, none⟩ (.int .i64 0)).setCell ⟨gb226, 2, none⟩ (.int .i64 0)).setCell ⟨gb226, 3, none⟩ (.int .i64 0)).setCell ⟨gb226, 2, none⟩ (.int .i64 (wrap64 ((wrap64 (a0_2 * (wrap64 ((wrap64 (Int.tdiv (ji49) a0_2)) + 1)))) - (ji49))))).setCell ⟨gb226, 1, none⟩ (.int .i64 (wrap64 (a0_1 - t225)))).setCell ⟨gb226, 3, none⟩ (.int .i64 (wrap64 ((wrap64 (a0_2 * (wrap64 ((wrap64 (Int.tdiv (ji49) a0_2)) + 1)))) - (ji49)))))) := ⟨bl HB⟩
                (try clear HO_220002)
                (try clear HO_220003)
                (try clear BK218)
                (try clear BK219)
                (try clear BK220)
                (try clear BK221)
                (try clear BK226)
                (try clear HB)
                generalize (((((((w175.setCell ⟨gb226, 0, none⟩ (.bool false)).setCell ⟨gb226, 1, none⟩ (.int .i64 0)).setCell ⟨gb226, 2, none⟩ (.int .i64 0)).setCell ⟨gb226, 3, none⟩ (.int .i64 0)).setCell ⟨gb226, 2, none⟩ (.int .i64 (wrap64 ((wrap64 (a0_2 * (wrap64 ((wrap64 (Int.tdiv (ji49) a0_2)) + 1)))) - (ji49))))).setCell ⟨gb226, 1, none⟩ (.int .i64 (wrap64 (a0_1 - t225)))).setCell ⟨gb226, 3, none⟩ (.int .i64 (wrap64 ((wrap64 (a0_2 * (wrap64 ((wrap64 (Int.tdiv (ji49) a0_2)) + 1)))) - (ji49))))) = w182 at n0_ n1_ n2_ n3_ n4_ n5_ n6_ n7_ ⊢
                have HO_220002 := n0_
                have HO_220003 := n1_
                have BK218 := n2_
                have BK219 := n3_
                have BK220 := n4_
                have BK221 := n5_
                have BK226 := n6_
                have HB := n7_
                clear n0_ n1_ n2_ n3_ n4_ n5_ n6_ n7_
                replace HO_220002 := Aside0.mk (Kd.V_drew HO_220002.out)
                replace HO_220003 := Aside0.mk (Kd.V_drew HO_220003.out)
                replace BK218 := Aside0.mk (blk_drew BK218.out)
                replace BK219 := Aside0.mk (blk_drew BK219.out)
                replace BK220 := Aside0.mk (blk_drew BK220.out)
                replace BK221 := Aside0.mk (blk_drew BK221.out)
                replace BK226 := Aside0.mk (blk_drew BK226.out)
                replace HB := Aside0.mk (below_drew1 HB.out)
                refine start_ (n := 6) (S := fun w' => w'.cell? ⟨gb226, 0, none⟩ = some (.bool false) ∧ w'.cell? ⟨gb226, 1, none⟩ = some (.int .i64 (wrap64 (a0_1 - t225))) ∧ w'.cell? ⟨gb226, 2, none⟩ = some (.int .i64 (wrap64 ((wrap64 (a0_2 * (wrap64 ((wrap64 (Int.tdiv (ji49) a0_2)) + 1)))) - (ji49)))) ∧ w'.cell? ⟨gb226, 3, none⟩ = some (.int .i64 (wrap64 ((wrap64 (a0_2 * (wrap64 ((wrap64 (Int.tdiv (ji49) a0_2)) + 1)))) - (ji49))))) (ds := []) #[false, false, false, false, false, false] (by kernel_rfl) rfl rfl ⟨(blk_cell BK226.out 0).trans rfl, (blk_cell BK226.out 1).trans rfl, (blk_cell BK226.out 2).trans rfl, (blk_cell BK226.out 3).trans rfl⟩ (fun hHeld => ?_)
                generalize w182.drew = w183 at HO_220002 HO_220003 BK218 BK219 BK220 BK221 BK226 HB hHeld ⊢
                refine pureB 0 75 ?_
                refine pureB 1 76 ?_
                refine pureB 2 77 ?_
                refine takeB' 3 78 hHeld ?_
                refine one_ (i := 4) (N := none) #[true, true, true, true, true, false] rfl rfl (by kernel_rfl) (by decide) (fun K hK => ?_)
                have hs184 : w183.cell? ⟨gb220, 0, none⟩ = some (.int .i64 0) := (blk_cell BK220.out 0).trans rfl
                have hfs184 := blk_frozen BK220.out 0
                have hns184_0 := NB218_220.out
                have hns184_1 := NB219_220.out
                have hns184_3 := NB221_220.out
                have hns184_4 := NB226_220.out
                have hms184_0 := NB220_218.out
                have hms184_1 := NB220_219.out
                have hms184_3 := NB220_221.out
                have hms184_4 := NB220_226.out
                have hs185 : w183.cell? ⟨gb220, 1, none⟩ = some (.int .i64 0) := (blk_cell BK220.out 1).trans rfl
                have hfs185 := blk_frozen BK220.out 1
                have hns185_0 := NB218_220.out
                have hns185_1 := NB219_220.out
                have hns185_3 := NB221_220.out
                have hns185_4 := NB226_220.out
                have hms185_0 := NB220_218.out
                have hms185_1 := NB220_219.out
                have hms185_3 := NB220_221.out
                have hms185_4 := NB220_226.out
                have hs186 : w183.cell? ⟨gb220, 2, none⟩ = some (.slice none 0 0) := (blk_cell BK220.out 2).trans rfl
                have hfs186 := blk_frozen BK220.out 2
                have hns186_0 := NB218_220.out
                have hns186_1 := NB219_220.out
                have hns186_3 := NB221_220.out
                have hns186_4 := NB226_220.out
                have hms186_0 := NB220_218.out
                have hms186_1 := NB220_219.out
                have hms186_3 := NB220_221.out
                have hms186_4 := NB220_226.out
                have hs187 : w183.cell? ⟨gb220, 3, none⟩ = some (.slice none 0 0) := (blk_cell BK220.out 3).trans rfl
                have hfs187 := blk_frozen BK220.out 3
                have hns187_0 := NB218_220.out
                have hns187_1 := NB219_220.out
                have hns187_3 := NB221_220.out
                have hns187_4 := NB226_220.out
                have hms187_0 := NB220_218.out
                have hms187_1 := NB220_219.out
                have hms187_3 := NB220_221.out
                have hms187_4 := NB220_226.out
                refine skip_ (w1 := ?_) (by rfl) rfl ?_ ?_
                rotate_left
                · go_simp
                  rfl
                refine hK.out _ _ ⟨((cell_far (p := ⟨gb220, _, none⟩) NB226_220.out _).trans (((cell_far (p := ⟨gb220, _, none⟩) NB226_220.out _).trans (((cell_far (p := ⟨gb220, _, none⟩) NB226_220.out _).trans (((cell_far (p := ⟨gb220, _, none⟩) NB226_220.out _).trans (hHeld.1)))))))), ((cell_far (p := ⟨gb220, _, none⟩) NB226_220.out _).trans (((cell_far (p := ⟨gb220, _, none⟩) NB226_220.out _).trans (((cell_far (p := ⟨gb220, _, none⟩) NB226_220.out _).trans (((cell_far (p := ⟨gb220, _, none⟩) NB226_220.out _).trans (hHeld.2.1)))))))), ((cell_far (p := ⟨gb220, _, none⟩) NB226_220.out _).trans (((cell_far (p := ⟨gb220, _, none⟩) NB226_220.out _).trans (((cell_far (p := ⟨gb220, _, none⟩) NB226_220.out _).trans (((cell_far (p := ⟨gb220, _, none⟩) NB226_220.out _).trans (hHeld.2.2.1)))))))), ((cell_far (p := ⟨gb220, _, none⟩) NB226_220.out _).trans (((cell_far (p := ⟨gb220, _, none⟩) NB226_220.out _).trans (((cell_far (p := ⟨gb220, _, none⟩) NB226_220.out _).trans (((cell_far (p := ⟨gb220, _, none⟩) NB226_220.out _).trans (hHeld.2.2.2))))))))⟩ (fun hHeld => ?_)
                clear hK K
                refine one_ (i := 5) (N := none) #[true, true, true, true, true, true] rfl rfl (by kernel_rfl) (by decide) (fun K hK => ?_)
                have hs188 : w183.cell? ⟨gb221, 0, none⟩ = some (.bool false) := (blk_cell BK221.out 0).trans rfl
                have hfs188 := blk_frozen BK221.out 0
                have hns188_0 := NB218_221.out
                have hns188_1 := NB219_221.out
                have hns188_2 := NB220_221.out
                have hns188_4 := NB226_221.out
                have hms188_0 := NB221_218.out
                have hms188_1 := NB221_219.out
                have hms188_2 := NB221_220.out
                have hms188_4 := NB221_226.out
                have hs189 : w183.cell? ⟨gb221, 1, none⟩ = some (.int .i64 0) := (blk_cell BK221.out 1).trans rfl
                have hfs189 := blk_frozen BK221.out 1
                have hns189_0 := NB218_221.out
                have hns189_1 := NB219_221.out
                have hns189_2 := NB220_221.out
                have hns189_4 := NB226_221.out
                have hms189_0 := NB221_218.out
                have hms189_1 := NB221_219.out
                have hms189_2 := NB221_220.out
                have hms189_4 := NB221_226.out
                have hs190 : w183.cell? ⟨gb221, 2, none⟩ = some (.int .i64 0) := (blk_cell BK221.out 2).trans rfl
                have hfs190 := blk_frozen BK221.out 2
                have hns190_0 := NB218_221.out
                have hns190_1 := NB219_221.out
                have hns190_2 := NB220_221.out
                have hns190_4 := NB226_221.out
                have hms190_0 := NB221_218.out
                have hms190_1 := NB221_219.out
                have hms190_2 := NB221_220.out
                have hms190_4 := NB221_226.out
                have hs191 : w183.cell? ⟨gb221, 3, none⟩ = some (.int .i64 0) := (blk_cell BK221.out 3).trans rfl
                have hfs191 := blk_frozen BK221.out 3
                have hns191_0 := NB218_221.out
                have hns191_1 := NB219_221.out
                have hns191_2 := NB220_221.out
                have hns191_4 := NB226_221.out
                have hms191_0 := NB221_218.out
                have hms191_1 := NB221_219.out
                have hms191_2 := NB221_220.out
                have hms191_4 := NB221_226.out
                refine skip_ (w1 := ?_) (by rfl) rfl ?_ ?_
                rotate_left
                · go_simp
                  rfl
                refine hK.out _ _ ⟨((cell_far (p := ⟨gb221, _, none⟩) NB226_221.out _).trans (((cell_far (p := ⟨gb221, _, none⟩) NB226_221.out _).trans (((cell_far (p := ⟨gb221, _, none⟩) NB226_221.out _).trans (((cell_far (p := ⟨gb221, _, none⟩) NB226_221.out _).trans (hHeld.1)))))))), ((cell_far (p := ⟨gb221, _, none⟩) NB226_221.out _).trans (((cell_far (p := ⟨gb221, _, none⟩) NB226_221.out _).trans (((cell_far (p := ⟨gb221, _, none⟩) NB226_221.out _).trans (((cell_far (p := ⟨gb221, _, none⟩) NB226_221.out _).trans (hHeld.2.1)))))))), ((cell_far (p := ⟨gb221, _, none⟩) NB226_221.out _).trans (((cell_far (p := ⟨gb221, _, none⟩) NB226_221.out _).trans (((cell_far (p := ⟨gb221, _, none⟩) NB226_221.out _).trans (((cell_far (p := ⟨gb221, _, none⟩) NB226_221.out _).trans (hHeld.2.2.1)))))))), ((cell_far (p := ⟨gb221, _, none⟩) NB226_221.out _).trans (((cell_far (p := ⟨gb221, _, none⟩) NB226_221.out _).trans (((cell_far (p := ⟨gb221, _, none⟩) NB226_221.out _).trans (((cell_far (p := ⟨gb221, _, none⟩) NB226_221.out _).trans (hHeld.2.2.2))))))))⟩ (fun hHeld => ?_)
                clear hK K
                refine done_ (by kernel_rfl) ?_
                try go_wp2
                refine bodyPost_ret (results_cc rfl _ _ gb220 gb221 27 32 #[.int .i64 ji49, .int .i64 t225, .slice none 0 0, .slice none 0 0] #[.bool false, .int .i64 (wrap64 (a0_1 - t225)), .int .i64 (wrap64 ((wrap64 (a0_2 * (wrap64 ((wrap64 (Int.tdiv (ji49) a0_2)) + 1)))) - (ji49))), .int .i64 (wrap64 ((wrap64 (a0_2 * (wrap64 ((wrap64 (Int.tdiv (ji49) a0_2)) + 1)))) - (ji49)))] (0, 0) (0, 0) _ _ rfl (by (with_reducible repeat (first | refine blk_drewN ?_ _ | refine blk_drew ?_ | refine blk_alloc ?_ _)); refine blk_far ?_ NB220_221.out _; (with_reducible repeat (first | refine blk_drewN ?_ _ | refine blk_drew ?_ | refine blk_alloc ?_ _)); refine blk_far ?_ NB220_221.out _; (with_reducible repeat (first | refine blk_drewN ?_ _ | refine blk_drew ?_ | refine blk_alloc ?_ _)); refine blk_far ?_ NB220_221.out _; (with_reducible repeat (first | refine blk_drewN ?_ _ | refine blk_drew ?_ | refine blk_alloc ?_ _)); refine blk_far ?_ NB220_221.out _; (with_reducible repeat (first | refine blk_drewN ?_ _ | refine blk_drew ?_ | refine blk_alloc ?_ _)); refine blk_put (cs := #[.int .i64 ji49, .int .i64 t225, .slice none 0 0, .slice none 0 0]) ?_ 3 _ rfl; (with_reducible repeat (first | refine blk_drewN ?_ _ | refine blk_drew ?_ | refine blk_alloc ?_ _)); refine blk_put (cs := #[.int .i64 ji49, .int .i64 t225, .slice none 0 0, .slice none 0 0]) ?_ 2 _ rfl; (with_reducible repeat (first | refine blk_drewN ?_ _ | refine blk_drew ?_ | refine blk_alloc ?_ _)); refine blk_put (cs := #[.int .i64 ji49, .int .i64 0, .slice none 0 0, .slice none 0 0]) ?_ 1 _ rfl; (with_reducible repeat (first | refine blk_drewN ?_ _ | refine blk_drew ?_ | refine blk_alloc ?_ _)); refine blk_put (cs := #[.int .i64 0, .int .i64 0, .slice none 0 0, .slice none 0 0]) ?_ 0 _ rfl; (with_reducible repeat (first | refine blk_drewN ?_ _ | refine blk_drew ?_ | refine blk_alloc ?_ _)); exact BK220.out) Try.underlying27 rfl (by kernel_rfl) rfl (by (with_reducible repeat (first | refine blk_drewN ?_ _ | refine blk_drew ?_ | refine blk_alloc ?_ _)); refine blk_put (cs := #[.bool false, .int .i64 (wrap64 (a0_1 - t225)), .int .i64 (wrap64 ((wrap64 (a0_2 * (wrap64 ((wrap64 (Int.tdiv (ji49) a0_2)) + 1)))) - (ji49))), .int .i64 0]) ?_ 3 _ rfl; (with_reducible repeat (first | refine blk_drewN ?_ _ | refine blk_drew ?_ | refine blk_alloc ?_ _)); refine blk_put (cs := #[.bool false, .int .i64 (wrap64 (a0_1 - t225)), .int .i64 0, .int .i64 0]) ?_ 2 _ rfl; (with_reducible repeat (first | refine blk_drewN ?_ _ | refine blk_drew ?_ | refine blk_alloc ?_ _)); refine blk_put (cs := #[.bool false, .int .i64 0, .int .i64 0, .int .i64 0]) ?_ 1 _ rfl; (with_reducible repeat (first | refine blk_drewN ?_ _ | refine blk_drew ?_ | refine blk_alloc ?_ _)); refine blk_put (cs := #[.bool false, .int .i64 0, .int .i64 0, .int .i64 0]) ?_ 0 _ rfl; (with_reducible repeat (first | refine blk_drewN ?_ _ | refine blk_drew ?_ | refine blk_alloc ?_ _)); refine blk_far ?_ NB221_220.out _; (with_reducible repeat (first | refine blk_drewN ?_ _ | refine blk_drew ?_ | refine blk_alloc ?_ _)); refine blk_far ?_ NB221_220.out _; (with_reducible repeat (first | refine blk_drewN ?_ _ | refine blk_drew ?_ | refine blk_alloc ?_ _)); refine blk_far ?_ NB221_220.out _; (with_reducible repeat (first | refine blk_drewN ?_ _ | refine blk_drew ?_ | refine blk_alloc ?_ _)); refine blk_far ?_ NB221_220.out _; (with_reducible repeat (first | refine blk_drewN ?_ _ | refine blk_drew ?_ | refine blk_alloc ?_ _)); exact BK221.out) Try.underlying32 rfl (by kernel_rfl)) rfl ?_
                exact ⟨_, _, by first | (with_reducible rfl) | (simp only [← hji49]; with_reducible rfl) | (simp only [← hji49]; done) | rfl | (simp [errW_none, errW_some] <;> rfl) | (simp only [← hji49]; first | rfl | (simp [errW_none, errW_some] <;> rfl)) | (simp [*, errW_none, errW_some] <;> rfl), Kd.V_nil _ _ _ _ _, Kd.V_nil _ _ _ _ _, bl HB⟩
              · rw [if_neg c164] at H
                have c164b0 : decide (0 < t225) = false := decide_eq_false c164
                clear c164
                simp only [Option.some.injEq, Prod.mk.injEq] at H
                obtain ⟨rfl, rfl, rfl, rfl, rfl, rfl, rfl, rfl⟩ := H
                have hnb192 := NB219_218.out
                have hnc192 := NB218_219.out
                have hnb193 := NB219_220.out
                have hnc193 := NB220_219.out
                have hnb194 := NB219_221.out
                have hnc194 := NB221_219.out
                obtain ⟨hcz195_0, hcz195_1, hcz195_2, hcz195_3⟩ := ce4 BK219
                obtain ⟨hfz195_0, hfz195_1, hfz195_2, hfz195_3⟩ := fr4 BK219
                have hnb196 := NB218_220.out
                have hnc196 := NB220_218.out
                have hnb197 := NB218_221.out
                have hnc197 := NB221_218.out
                obtain ⟨hcz198_0, hcz198_1, hcz198_2, hcz198_3⟩ := ce4 BK218
                obtain ⟨hfz198_0, hfz198_1, hfz198_2, hfz198_3⟩ := fr4 BK218
                try go_wp2_with (first | ((with_reducible refine gate_callee (f := 16) rfl ?_); refine goesL_ (some 36) rfl rfl Try.func16 (by kernel_rfl) rfl #[.agg #[.int .i64 a0_0, .int .i64 a0_1, .int .i64 a0_2, .int .i64 a0_3], .agg #[.int .i64 a1_0, .int .i64 a1_1, .slice A1_2 l1_2.length c1_2, .slice A1_3 l1_3.length c1_3], .int .i64 ji49] rfl (by (try simp only [List.map_toArray, List.map_cons, List.map_nil]); first | done | (simp only [hji49]; rfl) | rfl | (simp only [List.length_drop, List.length_take]; rfl)) ?_; (with_reducible refine (sandglassref11_Total.calls kj4 a0_0 a0_1 a0_2 a0_3 a1_0 a1_1 _ _ l1_2 _ _ l1_3 ji49 t225 _ ?side1 ?side2 ?side3 ?side4 A50.out).mono ?_); (case side1 => repeat (first | exact (Kd.V_reads' HO_220002.out).2.2 | (with_reducible refine Kd.C_alloc ?_ _) | (with_reducible refine Kd.C_drewN ?_ _) | (with_reducible refine Kd.C_drew ?_))); (case side2 => exact (Kd.V_reads' HO_220002.out).2.1); (case side3 => repeat (first | exact (Kd.V_reads' HO_220003.out).2.2 | (with_reducible refine Kd.C_alloc ?_ _) | (with_reducible refine Kd.C_drewN ?_ _) | (with_reducible refine Kd.C_drew ?_))); (case side4 => exact (Kd.V_reads' HO_220003.out).2.1); rintro e w199 ⟨rfl, hb⟩; refine ⟨_, rfl, ?_⟩; replace HO_220002 := vb HO_220002 hb; replace HO_220003 := vb HO_220003 hb; replace BK218 := Aside0.mk (blk_below (bo BK218) hb); replace BK219 := Aside0.mk (blk_below (bo BK219) hb); replace BK220 := Aside0.mk (blk_below (bo BK220) hb); replace BK221 := Aside0.mk (blk_below (bo BK221) hb); replace HB := Aside0.mk (below_step (bl HB) hb); (try clear hb); (try clear hb2); (try clear hk); (try clear hi)))
                replace HO_220002 := Aside0.mk (Kd.V_drew HO_220002.out)
                replace HO_220003 := Aside0.mk (Kd.V_drew HO_220003.out)
                replace BK218 := Aside0.mk (blk_drew BK218.out)
                replace BK219 := Aside0.mk (blk_drew BK219.out)
                replace BK220 := Aside0.mk (blk_drew BK220.out)
                replace BK221 := Aside0.mk (blk_drew BK221.out)
                replace HB := Aside0.mk (below_drew1 HB.out)
                refine start_ (n := 11) (S := fun w' => w'.cell? ⟨gb218, 0, none⟩ = some (.int .i64 a0_0) ∧ w'.cell? ⟨gb218, 1, none⟩ = some (.int .i64 a0_1) ∧ w'.cell? ⟨gb218, 2, none⟩ = some (.int .i64 a0_2) ∧ w'.cell? ⟨gb218, 3, none⟩ = some (.int .i64 a0_3)) (ds := []) #[false, false, false, false, false, false, false, false, false, false, false] (by kernel_rfl) rfl rfl ⟨(blk_cell BK218.out 0).trans rfl, (blk_cell BK218.out 1).trans rfl, (blk_cell BK218.out 2).trans rfl, (blk_cell BK218.out 3).trans rfl⟩ (fun hHeld => ?_); refine with_tabW sandglassref11_Ask.tab5 sandglassref11_Ask.bits5 (fun HT_ HW_ => ?_)
                generalize w199.drew = w200 at HO_220002 HO_220003 BK218 BK219 BK220 BK221 HB hHeld ⊢
                refine pureA 0 37 HT_ ?_
                refine pureA 2 39 HT_ ?_
                refine pureA 3 40 HT_ ?_
                refine pureA 8 45 HT_ ?_
                refine takeA 1 38 HT_ HW_ hHeld ?_
                refine takeA 4 41 HT_ HW_ hHeld ?_
                refine pureA 5 42 HT_ ?_
                refine pureA 6 43 HT_ ?_
                refine pureA 7 44 HT_ ?_
                refine pureA 9 46 HT_ ?_
                refine pureA 10 11 HT_ ?_
                refine done_ (done_of HT_.out (by kernel_rfl)) ?_
                obtain ⟨hcz201_0, hcz201_1, hcz201_2, hcz201_3⟩ := ce4 BK218
                obtain ⟨hfz201_0, hfz201_1, hfz201_2, hfz201_3⟩ := fr4 BK218
                try go_wp2_with (first | ((with_reducible refine gate_dst (N := 12) rfl ?_); refine box_event ?hg (N := 12) ?hd (cs := #[.bool false, .int .i64 0, .int .i64 0, .int .i64 0]) (t := 32) ?hr ?_; (case hd => rfl); (case hg => rfl); (case hr => first | (go_simp; done) | (go_simp; rfl)); intro gb226 hg w202 hbox hb; have BK226 := Aside0.mk (hbox); have GW226 := Aside0.mk ((by rw [hg]; exact (below_size (bl HB)) : w.heap.size ≤ gb226)); have GE226 := Aside0.mk ((by rw [hg]; exact (below_size (bl HB)) : w.heap.size ≤ gb226)); have NB218_226 := nb BK218 hg; have NB226_218 := bn BK218 hg; have NB219_226 := nb BK219 hg; have NB226_219 := bn BK219 hg; have NB220_226 := nb BK220 hg; have NB226_220 := bn BK220 hg; have NB221_226 := nb BK221 hg; have NB226_221 := bn BK221 hg; replace HO_220002 := ve HO_220002 hg hb; replace HO_220003 := ve HO_220003 hg hb; replace BK218 := Aside0.mk (blk_below (bo BK218) hb); replace BK219 := Aside0.mk (blk_below (bo BK219) hb); replace BK220 := Aside0.mk (blk_below (bo BK220) hb); replace BK221 := Aside0.mk (blk_below (bo BK221) hb); replace HB := Aside0.mk (below_step (bl HB) hb); clear hb hbox hg; have hnb203 := NB226_218.out; have hnc203 := NB218_226.out; have hnb204 := NB226_219.out; have hnc204 := NB219_226.out; have hnb205 := NB226_220.out; have hnc205 := NB220_226.out; have hnb206 := NB226_221.out; have hnc206 := NB221_226.out; obtain ⟨hcz207_0, hcz207_1, hcz207_2, hcz207_3⟩ := ce4 BK226; obtain ⟨hfz207_0, hfz207_1, hfz207_2, hfz207_3⟩ := fr4 BK226; obtain ⟨hcz208_0, hcz208_1, hcz208_2, hcz208_3⟩ := ce4 BK218; obtain ⟨hfz208_0, hfz208_1, hfz208_2, hfz208_3⟩ := fr4 BK218))
                have n0_ : Aside0 (Kd.V (Kd.int .i64) 3 ((((((w202.setCell ⟨gb226, 0, none⟩ (.bool false)).setCell ⟨gb226, 1, none⟩ (.int .i64 0)).setCell ⟨gb226, 2, none⟩ (.int .i64 0)).setCell ⟨gb226, 3, none⟩ (.int .i64 0)).setCell ⟨gb226, 2, none⟩ (.int .i64 (wrap64 ((wrap64 (a0_2 * (wrap64 ((wrap64 (Int.tdiv (ji49) a0_2)) + 1)))) - (ji49))))).setCell ⟨gb226, 1, none⟩ (.int .i64 (wrap64 (a0_1 - t225)))) w.heap.size (fun k_ => ((P1_2_ k_ ∨ P1_3_ k_) ∨ w.heap.size ≤ k_) ∧ k_ ≠ gb218 ∧ k_ ≠ gb219 ∧ k_ ≠ gb220 ∧ k_ ≠ gb221 ∧ k_ ≠ gb226) (.slice A1_2 l1_2.length c1_2) l1_2) := ⟨by (with_reducible repeat (first | apply Kd.V_alloc | apply Kd.V_drewN | apply Kd.V_drew)); exact Kd.V_mono (Kd.V_far (p := ⟨gb226, 1, none⟩) (Kd.V_far (p := ⟨gb226, 2, none⟩) (Kd.V_far (p := ⟨gb226, 3, none⟩) (Kd.V_far (p := ⟨gb226, 2, none⟩) (Kd.V_far (p := ⟨gb226, 1, none⟩) (Kd.V_far (p := ⟨gb226, 0, none⟩) (Kd.V_mono HO_220002.out (fun k_ hk => (⟨hk, hk.2⟩ : _ ∧ k_ ≠ gb226))) (fun _ hk => hk.2) (.bool false)) (fun _ hk => hk.2) (.int .i64 0)) (fun _ hk => hk.2) (.int .i64 0)) (fun _ hk => hk.2) (.int .i64 0)) (fun _ hk => hk.2) (.int .i64 (wrap64 ((wrap64 (a0_2 * (wrap64 ((wrap64 (Int.tdiv (ji49) a0_2)) + 1)))) - (ji49))))) (fun _ hk => hk.2) (.int .i64 (wrap64 (a0_1 - t225)))) (fun _ hk => ⟨hk.1.1.1, ⟨hk.1.1.2.1, ⟨hk.1.1.2.2.1, ⟨hk.1.1.2.2.2.1, ⟨hk.1.1.2.2.2.2, hk.1.2⟩⟩⟩⟩⟩)⟩
                have n1_ : Aside0 (Kd.V k53 53 ((((((w202.setCell ⟨gb226, 0, none⟩ (.bool false)).setCell ⟨gb226, 1, none⟩ (.int .i64 0)).setCell ⟨gb226, 2, none⟩ (.int .i64 0)).setCell ⟨gb226, 3, none⟩ (.int .i64 0)).setCell ⟨gb226, 2, none⟩ (.int .i64 (wrap64 ((wrap64 (a0_2 * (wrap64 ((wrap64 (Int.tdiv (ji49) a0_2)) + 1)))) - (ji49))))).setCell ⟨gb226, 1, none⟩ (.int .i64 (wrap64 (a0_1 - t225)))) w.heap.size (fun k_ => ((P1_2_ k_ ∨ P1_3_ k_) ∨ w.heap.size ≤ k_) ∧ k_ ≠ gb218 ∧ k_ ≠ gb219 ∧ k_ ≠ gb220 ∧ k_ ≠ gb221 ∧ k_ ≠ gb226) (.slice A1_3 l1_3.length c1_3) l1_3) := ⟨by (with_reducible repeat (first | apply Kd.V_alloc | apply Kd.V_drewN | apply Kd.V_drew)); exact Kd.V_mono (Kd.V_far (p := ⟨gb226, 1, none⟩) (Kd.V_far (p := ⟨gb226, 2, none⟩) (Kd.V_far (p := ⟨gb226, 3, none⟩) (Kd.V_far (p := ⟨gb226, 2, none⟩) (Kd.V_far (p := ⟨gb226, 1, none⟩) (Kd.V_far (p := ⟨gb226, 0, none⟩) (Kd.V_mono HO_220003.out (fun k_ hk => (⟨hk, hk.2⟩ : _ ∧ k_ ≠ gb226))) (fun _ hk => hk.2) (.bool false)) (fun _ hk => hk.2) (.int .i64 0)) (fun _ hk => hk.2) (.int .i64 0)) (fun _ hk => hk.2) (.int .i64 0)) (fun _ hk => hk.2) (.int .i64 (wrap64 ((wrap64 (a0_2 * (wrap64 ((wrap64 (Int.tdiv (ji49) a0_2)) + 1)))) - (ji49))))) (fun _ hk => hk.2) (.int .i64 (wrap64 (a0_1 - t225)))) (fun _ hk => ⟨hk.1.1.1, ⟨hk.1.1.2.1, ⟨hk.1.1.2.2.1, ⟨hk.1.1.2.2.2.1, ⟨hk.1.1.2.2.2.2, hk.1.2⟩⟩⟩⟩⟩)⟩
                have n2_ : Aside0 (((((((w202.setCell ⟨gb226, 0, none⟩ (.bool false)).setCell ⟨gb226, 1, none⟩ (.int .i64 0)).setCell ⟨gb226, 2, none⟩ (.int .i64 0)).setCell ⟨gb226, 3, none⟩ (.int .i64 0)).setCell ⟨gb226, 2, none⟩ (.int .i64 (wrap64 ((wrap64 (a0_2 * (wrap64 ((wrap64 (Int.tdiv (ji49) a0_2)) + 1)))) - (ji49))))).setCell ⟨gb226, 1, none⟩ (.int .i64 (wrap64 (a0_1 - t225)))).heap[gb218]? = some (.cells #[.int .i64 a0_0, .int .i64 a0_1, .int .i64 a0_2, .int .i64 a0_3] 23 (0, 0))) := ⟨by (with_reducible repeat (first | refine blk_drewN ?_ _ | refine blk_drew ?_ | refine blk_alloc ?_ _)); refine blk_far ?_ NB218_226.out _; (with_reducible repeat (first | refine blk_drewN ?_ _ | refine blk_drew ?_ | refine blk_alloc ?_ _)); refine blk_far ?_ NB218_226.out _; (with_reducible repeat (first | refine blk_drewN ?_ _ | refine blk_drew ?_ | refine blk_alloc ?_ _)); refine blk_far ?_ NB218_226.out _; (with_reducible repeat (first | refine blk_drewN ?_ _ | refine blk_drew ?_ | refine blk_alloc ?_ _)); refine blk_far ?_ NB218_226.out _; (with_reducible repeat (first | refine blk_drewN ?_ _ | refine blk_drew ?_ | refine blk_alloc ?_ _)); refine blk_far ?_ NB218_226.out _; (with_reducible repeat (first | refine blk_drewN ?_ _ | refine blk_drew ?_ | refine blk_alloc ?_ _)); refine blk_far ?_ NB218_226.out _; (with_reducible repeat (first | refine blk_drewN ?_ _ | refine blk_drew ?_ | refine blk_alloc ?_ _)); exact BK218.out⟩
                have n3_ : Aside0 (((((((w202.setCell ⟨gb226, 0, none⟩ (.bool false)).setCell ⟨gb226, 1, none⟩ (.int .i64 0)).setCell ⟨gb226, 2, none⟩ (.int .i64 0)).setCell ⟨gb226, 3, none⟩ (.int .i64 0)).setCell ⟨gb226, 2, none⟩ (.int .i64 (wrap64 ((wrap64 (a0_2 * (wrap64 ((wrap64 (Int.tdiv (ji49) a0_2)) + 1)))) - (ji49))))).setCell ⟨gb226, 1, none⟩ (.int .i64 (wrap64 (a0_1 - t225)))).heap[gb219]? = some (.cells #[.int .i64 a1_0, .int .i64 a1_1, .slice A1_2 l1_2.length c1_2, .slice A1_3 l1_3.length c1_3] 27 (0, 0))) := ⟨by (with_reducible repeat (first | refine blk_drewN ?_ _ | refine blk_drew ?_ | refine blk_alloc ?_ _)); refine blk_far ?_ NB219_226.out _; (with_reducible repeat (first | refine blk_drewN ?_ _ | refine blk_drew ?_ | refine blk_alloc ?_ _)); refine blk_far ?_ NB219_226.out _; (with_reducible repeat (first | refine blk_drewN ?_ _ | refine blk_drew ?_ | refine blk_alloc ?_ _)); refine blk_far ?_ NB219_226.out _; (with_reducible repeat (first | refine blk_drewN ?_ _ | refine blk_drew ?_ | refine blk_alloc ?_ _)); refine blk_far ?_ NB219_226.out _; (with_reducible repeat (first | refine blk_drewN ?_ _ | refine blk_drew ?_ | refine blk_alloc ?_ _)); refine blk_far ?_ NB219_226.out _; (with_reducible repeat (first | refine blk_drewN ?_ _ | refine blk_drew ?_ | refine blk_alloc ?_ _)); refine blk_far ?_ NB219_226.out _; (with_reducible repeat (first | refine blk_drewN ?_ _ | refine blk_drew ?_ | refine blk_alloc ?_ _)); exact BK219.out⟩
                have n4_ : Aside0 (((((((w202.setCell ⟨gb226, 0, none⟩ (.bool false)).setCell ⟨gb226, 1, none⟩ (.int .i64 0)).setCell ⟨gb226, 2, none⟩ (.int .i64 0)).setCell ⟨gb226, 3, none⟩ (.int .i64 0)).setCell ⟨gb226, 2, none⟩ (.int .i64 (wrap64 ((wrap64 (a0_2 * (wrap64 ((wrap64 (Int.tdiv (ji49) a0_2)) + 1)))) - (ji49))))).setCell ⟨gb226, 1, none⟩ (.int .i64 (wrap64 (a0_1 - t225)))).heap[gb220]? = some (.cells #[.int .i64 0, .int .i64 0, .slice none 0 0, .slice none 0 0] 27 (0, 0))) := ⟨by (with_reducible repeat (first | refine blk_drewN ?_ _ | refine blk_drew ?_ | refine blk_alloc ?_ _)); refine blk_far ?_ NB220_226.out _; (with_reducible repeat (first | refine blk_drewN ?_ _ | refine blk_drew ?_ | refine blk_alloc ?_ _)); refine blk_far ?_ NB220_226.out _; (with_reducible repeat (first | refine blk_drewN ?_ _ | refine blk_drew ?_ | refine blk_alloc ?_ _)); refine blk_far ?_ NB220_226.out _; (with_reducible repeat (first | refine blk_drewN ?_ _ | refine blk_drew ?_ | refine blk_alloc ?_ _)); refine blk_far ?_ NB220_226.out _; (with_reducible repeat (first | refine blk_drewN ?_ _ | refine blk_drew ?_ | refine blk_alloc ?_ _)); refine blk_far ?_ NB220_226.out _; (with_reducible repeat (first | refine blk_drewN ?_ _ | refine blk_drew ?_ | refine blk_alloc ?_ _)); refine blk_far ?_ NB220_226.out _; (with_reducible repeat (first | refine blk_drewN ?_ _ | refine blk_drew ?_ | refine blk_alloc ?_ _)); exact BK220.out⟩
                have n5_ : Aside0 (((((((w202.setCell ⟨gb226, 0, none⟩ (.bool false)).setCell ⟨gb226, 1, none⟩ (.int .i64 0)).setCell ⟨gb226, 2, none⟩ (.int .i64 0)).setCell ⟨gb226, 3, none⟩ (.int .i64 0)).setCell ⟨gb226, 2, none⟩ (.int .i64 (wrap64 ((wrap64 (a0_2 * (wrap64 ((wrap64 (Int.tdiv (ji49) a0_2)) + 1)))) - (ji49))))).setCell ⟨gb226, 1, none⟩ (.int .i64 (wrap64 (a0_1 - t225)))).heap[gb221]? = some (.cells #[.bool false, .int .i64 0, .int .i64 0, .int .i64 0] 32 (0, 0))) := ⟨by (with_reducible repeat (first | refine blk_drewN ?_ _ | refine blk_drew ?_ | refine blk_alloc ?_ _)); refine blk_far ?_ NB221_226.out _; (with_reducible repeat (first | refine blk_drewN ?_ _ | refine blk_drew ?_ | refine blk_alloc ?_ _)); refine blk_far ?_ NB221_226.out _; (with_reducible repeat (first | refine blk_drewN ?_ _ | refine blk_drew ?_ | refine blk_alloc ?_ _)); refine blk_far ?_ NB221_226.out _; (with_reducible repeat (first | refine blk_drewN ?_ _ | refine blk_drew ?_ | refine blk_alloc ?_ _)); refine blk_far ?_ NB221_226.out _; (with_reducible repeat (first | refine blk_drewN ?_ _ | refine blk_drew ?_ | refine blk_alloc ?_ _)); refine blk_far ?_ NB221_226.out _; (with_reducible repeat (first | refine blk_drewN ?_ _ | refine blk_drew ?_ | refine blk_alloc ?_ _)); refine blk_far ?_ NB221_226.out _; (with_reducible repeat (first | refine blk_drewN ?_ _ | refine blk_drew ?_ | refine blk_alloc ?_ _)); exact BK221.out⟩
                have n6_ : Aside0 (((((((w202.setCell ⟨gb226, 0, none⟩ (.bool false)).setCell ⟨gb226, 1, none⟩ (.int .i64 0)).setCell ⟨gb226, 2, none⟩ (.int .i64 0)).setCell ⟨gb226, 3, none⟩ (.int .i64 0)).setCell ⟨gb226, 2, none⟩ (.int .i64 (wrap64 ((wrap64 (a0_2 * (wrap64 ((wrap64 (Int.tdiv (ji49) a0_2)) + 1)))) - (ji49))))).setCell ⟨gb226, 1, none⟩ (.int .i64 (wrap64 (a0_1 - t225)))).heap[gb226]? = some (.cells #[.bool false, .int .i64 (wrap64 (a0_1 - t225)), .int .i64 (wrap64 ((wrap64 (a0_2 * (wrap64 ((wrap64 (Int.tdiv (ji49) a0_2)) + 1)))) - (ji49))), .int .i64 0] 32 (0, 0))) := ⟨by (with_reducible repeat (first | refine blk_drewN ?_ _ | refine blk_drew ?_ | refine blk_alloc ?_ _)); refine blk_put (cs := #[.bool false, .int .i64 0, .int .i64 (wrap64 ((wrap64 (a0_2 * (wrap64 ((wrap64 (Int.tdiv (ji49) a0_2)) + 1)))) - (ji49))), .int .i64 0]) ?_ 1 _ rfl; (with_reducible repeat (first | refine blk_drewN ?_ _ | refine blk_drew ?_ | refine blk_alloc ?_ _)); refine blk_put (cs := #[.bool false, .int .i64 0, .int .i64 0, .int .i64 0]) ?_ 2 _ rfl; (with_reducible repeat (first | refine blk_drewN ?_ _ | refine blk_drew ?_ | refine blk_alloc ?_ _)); refine blk_put (cs := #[.bool false, .int .i64 0, .int .i64 0, .int .i64 0]) ?_ 3 _ rfl; (with_reducible repeat (first | refine blk_drewN ?_ _ | refine blk_drew ?_ | refine blk_alloc ?_ _)); refine blk_put (cs := #[.bool false, .int .i64 0, .int .i64 0, .int .i64 0]) ?_ 2 _ rfl; (with_reducible repeat (first | refine blk_drewN ?_ _ | refine blk_drew ?_ | refine blk_alloc ?_ _)); refine blk_put (cs := #[.bool false, .int .i64 0, .int .i64 0, .int .i64 0]) ?_ 1 _ rfl; (with_reducible repeat (first | refine blk_drewN ?_ _ | refine blk_drew ?_ | refine blk_alloc ?_ _)); refine blk_put (cs := #[.bool false, .int .i64 0, .int .i64 0, .int .i64 0]) ?_ 0 _ rfl; (with_reducible repeat (first | refine blk_drewN ?_ _ | refine blk_drew ?_ | refine blk_alloc ?_ _)); exact BK226.out⟩
                have n7_ : Aside0 (Below w.heap.size w ((((((w202.setCell ⟨gb226, 0, none⟩ (.bool false)).setCell ⟨gb226, 1, none⟩ (.int .i64 0)).setCell ⟨gb226, 2, none⟩ (.int .i64 0)).setCell ⟨gb226, 3, none⟩ (.int .i64 0)).setCell ⟨gb226, 2, none⟩ (.int .i64 (wrap64 ((wrap64 (a0_2 * (wrap64 ((wrap64 (Int.tdiv (ji49) a0_2)) + 1)))) - (ji49))))).setCell ⟨gb226, 1, none⟩ (.int .i64 (wrap64 (a0_1 - t225))))) := ⟨bl HB⟩
                (try clear HO_220002)
                (try clear HO_220003)
                (try clear BK218)
                (try clear BK219)
                (try clear BK220)
                (try clear BK221)
                (try clear BK226)
                (try clear HB)
                generalize ((((((w202.setCell ⟨gb226, 0, none⟩ (.bool false)).setCell ⟨gb226, 1, none⟩ (.int .i64 0)).setCell ⟨gb226, 2, none⟩ (.int .i64 0)).setCell ⟨gb226, 3, none⟩ (.int .i64 0)).setCell ⟨gb226, 2, none⟩ (.int .i64 (wrap64 ((wrap64 (a0_2 * (wrap64 ((wrap64 (Int.tdiv (ji49) a0_2)) + 1)))) - (ji49))))).setCell ⟨gb226, 1, none⟩ (.int .i64 (wrap64 (a0_1 - t225)))) = w209 at n0_ n1_ n2_ n3_ n4_ n5_ n6_ n7_ ⊢
                have HO_220002 := n0_
                have HO_220003 := n1_
                have BK218 := n2_
                have BK219 := n3_
                have BK220 := n4_
                have BK221 := n5_
                have BK226 := n6_
                have HB := n7_
                clear n0_ n1_ n2_ n3_ n4_ n5_ n6_ n7_
                replace HO_220002 := Aside0.mk (Kd.V_drew HO_220002.out)
                replace HO_220003 := Aside0.mk (Kd.V_drew HO_220003.out)
                replace BK218 := Aside0.mk (blk_drew BK218.out)
                replace BK219 := Aside0.mk (blk_drew BK219.out)
                replace BK220 := Aside0.mk (blk_drew BK220.out)
                replace BK221 := Aside0.mk (blk_drew BK221.out)
                replace BK226 := Aside0.mk (blk_drew BK226.out)
                replace HB := Aside0.mk (below_drew1 HB.out)
                refine start_ (n := 6) (S := fun w' => w'.cell? ⟨gb226, 0, none⟩ = some (.bool false) ∧ w'.cell? ⟨gb226, 1, none⟩ = some (.int .i64 (wrap64 (a0_1 - t225))) ∧ w'.cell? ⟨gb226, 2, none⟩ = some (.int .i64 (wrap64 ((wrap64 (a0_2 * (wrap64 ((wrap64 (Int.tdiv (ji49) a0_2)) + 1)))) - (ji49)))) ∧ w'.cell? ⟨gb226, 3, none⟩ = some (.int .i64 0)) (ds := []) #[false, false, false, false, false, false] (by kernel_rfl) rfl rfl ⟨(blk_cell BK226.out 0).trans rfl, (blk_cell BK226.out 1).trans rfl, (blk_cell BK226.out 2).trans rfl, (blk_cell BK226.out 3).trans rfl⟩ (fun hHeld => ?_)
                generalize w209.drew = w210 at HO_220002 HO_220003 BK218 BK219 BK220 BK221 BK226 HB hHeld ⊢
                refine pureB 0 75 ?_
                refine pureB 1 76 ?_
                refine pureB 2 77 ?_
                refine takeB' 3 78 hHeld ?_
                refine one_ (i := 4) (N := none) #[true, true, true, true, true, false] rfl rfl (by kernel_rfl) (by decide) (fun K hK => ?_)
                have hs211 : w210.cell? ⟨gb220, 0, none⟩ = some (.int .i64 0) := (blk_cell BK220.out 0).trans rfl
                have hfs211 := blk_frozen BK220.out 0
                have hns211_0 := NB218_220.out
                have hns211_1 := NB219_220.out
                have hns211_3 := NB221_220.out
                have hns211_4 := NB226_220.out
                have hms211_0 := NB220_218.out
                have hms211_1 := NB220_219.out
                have hms211_3 := NB220_221.out
                have hms211_4 := NB220_226.out
                have hs212 : w210.cell? ⟨gb220, 1, none⟩ = some (.int .i64 0) := (blk_cell BK220.out 1).trans rfl
                have hfs212 := blk_frozen BK220.out 1
                have hns212_0 := NB218_220.out
                have hns212_1 := NB219_220.out
                have hns212_3 := NB221_220.out
                have hns212_4 := NB226_220.out
                have hms212_0 := NB220_218.out
                have hms212_1 := NB220_219.out
                have hms212_3 := NB220_221.out
                have hms212_4 := NB220_226.out
                have hs213 : w210.cell? ⟨gb220, 2, none⟩ = some (.slice none 0 0) := (blk_cell BK220.out 2).trans rfl
                have hfs213 := blk_frozen BK220.out 2
                have hns213_0 := NB218_220.out
                have hns213_1 := NB219_220.out
                have hns213_3 := NB221_220.out
                have hns213_4 := NB226_220.out
                have hms213_0 := NB220_218.out
                have hms213_1 := NB220_219.out
                have hms213_3 := NB220_221.out
                have hms213_4 := NB220_226.out
                have hs214 : w210.cell? ⟨gb220, 3, none⟩ = some (.slice none 0 0) := (blk_cell BK220.out 3).trans rfl
                have hfs214 := blk_frozen BK220.out 3
                have hns214_0 := NB218_220.out
                have hns214_1 := NB219_220.out
                have hns214_3 := NB221_220.out
                have hns214_4 := NB226_220.out
                have hms214_0 := NB220_218.out
                have hms214_1 := NB220_219.out
                have hms214_3 := NB220_221.out
                have hms214_4 := NB220_226.out
                refine skip_ (w1 := ?_) (by rfl) rfl ?_ ?_
                rotate_left
                · go_simp
                  rfl
                refine hK.out _ _ ⟨((cell_far (p := ⟨gb220, _, none⟩) NB226_220.out _).trans (((cell_far (p := ⟨gb220, _, none⟩) NB226_220.out _).trans (((cell_far (p := ⟨gb220, _, none⟩) NB226_220.out _).trans (((cell_far (p := ⟨gb220, _, none⟩) NB226_220.out _).trans (hHeld.1)))))))), ((cell_far (p := ⟨gb220, _, none⟩) NB226_220.out _).trans (((cell_far (p := ⟨gb220, _, none⟩) NB226_220.out _).trans (((cell_far (p := ⟨gb220, _, none⟩) NB226_220.out _).trans (((cell_far (p := ⟨gb220, _, none⟩) NB226_220.out _).trans (hHeld.2.1)))))))), ((cell_far (p := ⟨gb220, _, none⟩) NB226_220.out _).trans (((cell_far (p := ⟨gb220, _, none⟩) NB226_220.out _).trans (((cell_far (p := ⟨gb220, _, none⟩) NB226_220.out _).trans (((cell_far (p := ⟨gb220, _, none⟩) NB226_220.out _).trans (hHeld.2.2.1)))))))), ((cell_far (p := ⟨gb220, _, none⟩) NB226_220.out _).trans (((cell_far (p := ⟨gb220, _, none⟩) NB226_220.out _).trans (((cell_far (p := ⟨gb220, _, none⟩) NB226_220.out _).trans (((cell_far (p := ⟨gb220, _, none⟩) NB226_220.out _).trans (hHeld.2.2.2))))))))⟩ (fun hHeld => ?_)
                clear hK K
                refine one_ (i := 5) (N := none) #[true, true, true, true, true, true] rfl rfl (by kernel_rfl) (by decide) (fun K hK => ?_)
                have hs215 : w210.cell? ⟨gb221, 0, none⟩ = some (.bool false) := (blk_cell BK221.out 0).trans rfl
                have hfs215 := blk_frozen BK221.out 0
                have hns215_0 := NB218_221.out
                have hns215_1 := NB219_221.out
                have hns215_2 := NB220_221.out
                have hns215_4 := NB226_221.out
                have hms215_0 := NB221_218.out
                have hms215_1 := NB221_219.out
                have hms215_2 := NB221_220.out
                have hms215_4 := NB221_226.out
                have hs216 : w210.cell? ⟨gb221, 1, none⟩ = some (.int .i64 0) := (blk_cell BK221.out 1).trans rfl
                have hfs216 := blk_frozen BK221.out 1
                have hns216_0 := NB218_221.out
                have hns216_1 := NB219_221.out
                have hns216_2 := NB220_221.out
                have hns216_4 := NB226_221.out
                have hms216_0 := NB221_218.out
                have hms216_1 := NB221_219.out
                have hms216_2 := NB221_220.out
                have hms216_4 := NB221_226.out
                have hs217 : w210.cell? ⟨gb221, 2, none⟩ = some (.int .i64 0) := (blk_cell BK221.out 2).trans rfl
                have hfs217 := blk_frozen BK221.out 2
                have hns217_0 := NB218_221.out
                have hns217_1 := NB219_221.out
                have hns217_2 := NB220_221.out
                have hns217_4 := NB226_221.out
                have hms217_0 := NB221_218.out
                have hms217_1 := NB221_219.out
                have hms217_2 := NB221_220.out
                have hms217_4 := NB221_226.out
                have hs218 : w210.cell? ⟨gb221, 3, none⟩ = some (.int .i64 0) := (blk_cell BK221.out 3).trans rfl
                have hfs218 := blk_frozen BK221.out 3
                have hns218_0 := NB218_221.out
                have hns218_1 := NB219_221.out
                have hns218_2 := NB220_221.out
                have hns218_4 := NB226_221.out
                have hms218_0 := NB221_218.out
                have hms218_1 := NB221_219.out
                have hms218_2 := NB221_220.out
                have hms218_4 := NB221_226.out
                refine skip_ (w1 := ?_) (by rfl) rfl ?_ ?_
                rotate_left
                · go_simp
                  rfl
                refine hK.out _ _ ⟨((cell_far (p := ⟨gb221, _, none⟩) NB226_221.out _).trans (((cell_far (p := ⟨gb221, _, none⟩) NB226_221.out _).trans (((cell_far (p := ⟨gb221, _, none⟩) NB226_221.out _).trans (((cell_far (p := ⟨gb221, _, none⟩) NB226_221.out _).trans (hHeld.1)))))))), ((cell_far (p := ⟨gb221, _, none⟩) NB226_221.out _).trans (((cell_far (p := ⟨gb221, _, none⟩) NB226_221.out _).trans (((cell_far (p := ⟨gb221, _, none⟩) NB226_221.out _).trans (((cell_far (p := ⟨gb221, _, none⟩) NB226_221.out _).trans (hHeld.2.1)))))))), ((cell_far (p := ⟨gb221, _, none⟩) NB226_221.out _).trans (((cell_far (p := ⟨gb221, _, none⟩) NB226_221.out _).trans (((cell_far (p := ⟨gb221, _, none⟩) NB226_221.out _).trans (((cell_far (p := ⟨gb221, _, none⟩) NB226_221.out _).trans (hHeld.2.2.1)))))))), ((cell_far (p := ⟨gb221, _, none⟩) NB226_221.out _).trans (((cell_far (p := ⟨gb221, _, none⟩) NB226_221.out _).trans (((cell_far (p := ⟨gb221, _, none⟩) NB226_221.out _).trans (((cell_far (p := ⟨gb221, _, none⟩) NB226_221.out _).trans (hHeld.2.2.2))))))))⟩ (fun hHeld => ?_)
                clear hK K
                refine done_ (by kernel_rfl) ?_
                try go_wp2
                refine bodyPost_ret (results_cc rfl _ _ gb220 gb221 27 32 #[.int .i64 ji49, .int .i64 t225, .slice none 0 0, .slice none 0 0] #[.bool false, .int .i64 (wrap64 (a0_1 - t225)), .int .i64 (wrap64 ((wrap64 (a0_2 * (wrap64 ((wrap64 (Int.tdiv (ji49) a0_2)) + 1)))) - (ji49))), .int .i64 0] (0, 0) (0, 0) _ _ rfl (by (with_reducible repeat (first | refine blk_drewN ?_ _ | refine blk_drew ?_ | refine blk_alloc ?_ _)); refine blk_far ?_ NB220_221.out _; (with_reducible repeat (first | refine blk_drewN ?_ _ | refine blk_drew ?_ | refine blk_alloc ?_ _)); refine blk_far ?_ NB220_221.out _; (with_reducible repeat (first | refine blk_drewN ?_ _ | refine blk_drew ?_ | refine blk_alloc ?_ _)); refine blk_far ?_ NB220_221.out _; (with_reducible repeat (first | refine blk_drewN ?_ _ | refine blk_drew ?_ | refine blk_alloc ?_ _)); refine blk_far ?_ NB220_221.out _; (with_reducible repeat (first | refine blk_drewN ?_ _ | refine blk_drew ?_ | refine blk_alloc ?_ _)); refine blk_put (cs := #[.int .i64 ji49, .int .i64 t225, .slice none 0 0, .slice none 0 0]) ?_ 3 _ rfl; (with_reducible repeat (first | refine blk_drewN ?_ _ | refine blk_drew ?_ | refine blk_alloc ?_ _)); refine blk_put (cs := #[.int .i64 ji49, .int .i64 t225, .slice none 0 0, .slice none 0 0]) ?_ 2 _ rfl; (with_reducible repeat (first | refine blk_drewN ?_ _ | refine blk_drew ?_ | refine blk_alloc ?_ _)); refine blk_put (cs := #[.int .i64 ji49, .int .i64 0, .slice none 0 0, .slice none 0 0]) ?_ 1 _ rfl; (with_reducible repeat (first | refine blk_drewN ?_ _ | refine blk_drew ?_ | refine blk_alloc ?_ _)); refine blk_put (cs := #[.int .i64 0, .int .i64 0, .slice none 0 0, .slice none 0 0]) ?_ 0 _ rfl; (with_reducible repeat (first | refine blk_drewN ?_ _ | refine blk_drew ?_ | refine blk_alloc ?_ _)); exact BK220.out) Try.underlying27 rfl (by kernel_rfl) rfl (by (with_reducible repeat (first | refine blk_drewN ?_ _ | refine blk_drew ?_ | refine blk_alloc ?_ _)); refine blk_put (cs := #[.bool false, .int .i64 (wrap64 (a0_1 - t225)), .int .i64 (wrap64 ((wrap64 (a0_2 * (wrap64 ((wrap64 (Int.tdiv (ji49) a0_2)) + 1)))) - (ji49))), .int .i64 0]) ?_ 3 _ rfl; (with_reducible repeat (first | refine blk_drewN ?_ _ | refine blk_drew ?_ | refine blk_alloc ?_ _)); refine blk_put (cs := #[.bool false, .int .i64 (wrap64 (a0_1 - t225)), .int .i64 0, .int .i64 0]) ?_ 2 _ rfl; (with_reducible repeat (first | refine blk_drewN ?_ _ | refine blk_drew ?_ | refine blk_alloc ?_ _)); refine blk_put (cs := #[.bool false, .int .i64 0, .int .i64 0, .int .i64 0]) ?_ 1 _ rfl; (with_reducible repeat (first | refine blk_drewN ?_ _ | refine blk_drew ?_ | refine blk_alloc ?_ _)); refine blk_put (cs := #[.bool false, .int .i64 0, .int .i64 0, .int .i64 0]) ?_ 0 _ rfl; (with_reducible repeat (first | refine blk_drewN ?_ _ | refine blk_drew ?_ | refine blk_alloc ?_ _)); refine blk_far ?_ NB221_220.out _; (with_reducible repeat (first | refine blk_drewN ?_ _ | refine blk_drew ?_ | refine blk_alloc ?_ _)); refine blk_far ?_ NB221_220.out _; (with_reducible repeat (first | refine blk_drewN ?_ _ | refine blk_drew ?_ | refine blk_alloc ?_ _)); refine blk_far ?_ NB221_220.out _; (with_reducible repeat (first | refine blk_drewN ?_ _ | refine blk_drew ?_ | refine blk_alloc ?_ _)); refine blk_far ?_ NB221_220.out _; (with_reducible repeat (first | refine blk_drewN ?_ _ | refine blk_drew ?_ | refine blk_alloc ?_ _)); exact BK221.out) Try.underlying32 rfl (by kernel_rfl)) rfl ?_
                exact ⟨_, _, by first | (with_reducible rfl) | (simp only [← hji49]; with_reducible rfl) | (simp only [← hji49]; done) | rfl | (simp [errW_none, errW_some] <;> rfl) | (simp only [← hji49]; first | rfl | (simp [errW_none, errW_some] <;> rfl)) | (simp [*, errW_none, errW_some] <;> rfl), Kd.V_nil _ _ _ _ _, Kd.V_nil _ _ _ _ _, bl HB⟩

end Go.Proofs.Ytlnadabohaobnaa.Q
