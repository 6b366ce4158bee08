-- Laid by wip/tools/hprint.py, a program of this repo, over the kit's print; not a text of print.sh.
import Derived.Test.YtpeljhmbaibjcaaQ0
import Derived.Test.YtpeljhmbaibjcaaQ24
import Derived.Test.YtpeljhmbaibjcaaQ25
import Derived.Test.YtpeljhmbaibjcaaQ26
import Derived.Test.YtpeljhmbaibjcaaQ27
import Derived.Test.YtpeljhmbaibjcaaQ28
namespace Go.Proofs.Ytpeljhmbaibjcaa.Q
open Go.RowKit Go.Proofs.Ytpeljhmbaibjcaa.Zip Go.Proofs.YtpeljhmbaibjcaaW.PrintWords Go.Proofs.YtpeljhmbaibjcaaW.PrintLast Go.Proofs.YtpeljhmbaibjcaaW.PrintMore
attribute [local go_sem] max2_int min2_int max_two min_two max_three min_three max_four min_four   -- for this text's walks alone
set_option linter.unusedVariables false
set_option linter.unusedSimpArgs false

/-! ### sandglassref10_Ask: function 11 -/
mutual
def sandglassref10_Ask.j0 : Nat → Int → Int → Bool → Int → Int → Int → Int → Int → Int → List Int → List (S57) → Option (Int × Int × List Int × (List (S57)) × Bool × Int × Int × Int)
  | 0, _, _, _, _, _, _, _, _, _, _, _ => none
  | k + 1, x2, x3, x26, x232000, x232001, x232002, x232003, x233000, x233001, x233002, x233003 => if x26 = true then (some (x233000, x233001, x233002, x233003, false, 0, 0, 0)) else ((sandglassref10_Level.f k x232000 x232001 x232002 x232003 x233000 x233001 x233002 x233003 (mx x2 x233000)).bind fun t238 => (if (wrap64 (t238 + (wrap64 (x3 * x232002)))) ≤ (wrap64 (x232001 * x232002)) then (sandglassref10_Ask.j1 k (mx x2 x233000) (wrap64 (t238 + (wrap64 (x3 * x232002)))) (wrap64 (x232001 * x232002)) x232000 x232001 x232002 x232003 (decide ((wrap64 (t238 + (wrap64 (x3 * x232002)))) ≤ (wrap64 (x232001 * x232002)))) 0 0 0) else (if x3 > x232001 then (sandglassref10_Ask.j1 k (mx x2 x233000) t238 (wrap64 (x232001 * x232002)) x232000 x232001 x232002 x232003 (decide ((wrap64 (t238 + (wrap64 (x3 * x232002)))) ≤ (wrap64 (x232001 * x232002)))) 0 2199023255552 0) else ((sandglassref10_Up.f (wrap64 ((wrap64 (t238 + (wrap64 (x3 * x232002)))) - (wrap64 (x232001 * x232002)))) x232001).bind fun t240 => (sandglassref10_Ask.j1 k (mx x2 x233000) t238 (wrap64 (x232001 * x232002)) x232000 x232001 x232002 x232003 (decide ((wrap64 (t238 + (wrap64 (x3 * x232002)))) ≤ (wrap64 (x232001 * x232002)))) 0 t240 0)))))
def sandglassref10_Ask.j1 : Nat → Int → Int → Int → Int → Int → Int → Int → Bool → Int → Int → Int → Option (Int × Int × List Int × (List (S57)) × Bool × Int × Int × Int)
  | 0, _, _, _, _, _, _, _, _, _, _, _ => none
  | k + 1, x2, x10, x11, x232000, x232001, x232002, x232003, x240000, x240001, x240002, x240003 => if x232002 = 0 then (none) else ((sandglassref10_Up.f x10 x232001).bind fun t241 => (some (x2, x10, ([] : List Int), ([] : List (S57)), x240000, wrap64 (Int.tdiv (wrap64 (x11 - x10)) x232002), x240002, t241)))
end
def sandglassref10_Ask.f (k : Nat) (a0_0 : Int) (a0_1 : Int) (a0_2 : Int) (a0_3 : Int) (a1_0 : Int) (a1_1 : Int) (l1_2 : List Int) (l1_3 : List (S57)) (a2 : Int) (a3 : Int) : Option (Int × Int × List Int × (List (S57)) × Bool × Int × Int × Int) := (sandglassref10_May.f k a0_0 a0_1 a0_2 a0_3 a1_0 a1_1 l1_2 l1_3).bind fun t235 => (if t235 = true then ((sandglassref10_Time.f a2).bind fun t236 => (if t236 = true then ((sandglassref09_Weighs.f a3).bind fun t237 => (sandglassref10_Ask.j0 k a2 a3 (!t237) a0_0 a0_1 a0_2 a0_3 a1_0 a1_1 l1_2 l1_3)) else (sandglassref10_Ask.j0 k a2 a3 true a0_0 a0_1 a0_2 a0_3 a1_0 a1_1 l1_2 l1_3))) else (sandglassref10_Ask.j0 k a2 a3 true a0_0 a0_1 a0_2 a0_3 a1_0 a1_1 l1_2 l1_3))
theorem sandglassref10_Ask.mono_l : ∀ k, (∀ y0 y1 y2 y3 y4 y5 y6 y7 y8 y9 y10, LeO (sandglassref10_Ask.j0 k y0 y1 y2 y3 y4 y5 y6 y7 y8 y9 y10) (sandglassref10_Ask.j0 (k + 1) y0 y1 y2 y3 y4 y5 y6 y7 y8 y9 y10)) ∧ (∀ y0 y1 y2 y3 y4 y5 y6 y7 y8 y9 y10, LeO (sandglassref10_Ask.j1 k y0 y1 y2 y3 y4 y5 y6 y7 y8 y9 y10) (sandglassref10_Ask.j1 (k + 1) y0 y1 y2 y3 y4 y5 y6 y7 y8 y9 y10))
  | 0 => ⟨fun _ _ _ _ _ _ _ _ _ _ _ r h => by simp [sandglassref10_Ask.j0] at h, fun _ _ _ _ _ _ _ _ _ _ _ r h => by simp [sandglassref10_Ask.j1] at h⟩
  | k + 1 => by
    obtain ⟨ih0, ih1⟩ := sandglassref10_Ask.mono_l k
    refine ⟨?_, ?_⟩
    · intro y0 y1 y2 y3 y4 y5 y6 y7 y8 y9 y10
      unfold sandglassref10_Ask.j0
      repeat' first
      | (with_reducible exact ih0 _ _ _ _ _ _ _ _ _ _ _)
      | (with_reducible exact ih1 _ _ _ _ _ _ _ _ _ _ _)
      | (with_reducible exact sandglassref10_Level.mono _ _ _ _ _ _ _ _ _ _)
      | (with_reducible exact sandglassref10_May.mono _ _ _ _ _ _ _ _ _)
      | (with_reducible exact LeO.refl _)
      | (with_reducible exact LeO.none _)
      | (with_reducible refine LeO.ite ?_ ?_)
      | (with_reducible refine LeO.bind ?_ (fun _ => ?_))
      | exact ih0 _ _ _ _ _ _ _ _ _ _ _
      | exact ih1 _ _ _ _ _ _ _ _ _ _ _
      | exact sandglassref10_Level.mono _ _ _ _ _ _ _ _ _ _
      | exact sandglassref10_May.mono _ _ _ _ _ _ _ _ _
      | exact LeO.none _
      | refine LeO.ite ?_ ?_
      | refine LeO.bind ?_ (fun _ => ?_)
    · intro y0 y1 y2 y3 y4 y5 y6 y7 y8 y9 y10
      unfold sandglassref10_Ask.j1
      repeat' first
      | (with_reducible exact ih0 _ _ _ _ _ _ _ _ _ _ _)
      | (with_reducible exact ih1 _ _ _ _ _ _ _ _ _ _ _)
      | (with_reducible exact sandglassref10_Level.mono _ _ _ _ _ _ _ _ _ _)
      | (with_reducible exact sandglassref10_May.mono _ _ _ _ _ _ _ _ _)
      | (with_reducible exact LeO.refl _)
      | (with_reducible exact LeO.none _)
      | (with_reducible refine LeO.ite ?_ ?_)
      | (with_reducible refine LeO.bind ?_ (fun _ => ?_))
      | exact ih0 _ _ _ _ _ _ _ _ _ _ _
      | exact ih1 _ _ _ _ _ _ _ _ _ _ _
      | exact sandglassref10_Level.mono _ _ _ _ _ _ _ _ _ _
      | exact sandglassref10_May.mono _ _ _ _ _ _ _ _ _
      | exact LeO.none _
      | refine LeO.ite ?_ ?_
      | refine LeO.bind ?_ (fun _ => ?_)
theorem sandglassref10_Ask.mono : ∀ a0 a1 a2 a3 a4 a5 a6 a7 a8 a9 k, LeO (sandglassref10_Ask.f k a0 a1 a2 a3 a4 a5 a6 a7 a8 a9) (sandglassref10_Ask.f (k + 1) a0 a1 a2 a3 a4 a5 a6 a7 a8 a9) := by
  intro a0 a1 a2 a3 a4 a5 a6 a7 a8 a9 k
  obtain ⟨ih0, ih1⟩ := sandglassref10_Ask.mono_l k
  unfold sandglassref10_Ask.f
  repeat' first
      | (with_reducible exact ih0 _ _ _ _ _ _ _ _ _ _ _)
      | (with_reducible exact ih1 _ _ _ _ _ _ _ _ _ _ _)
      | (with_reducible exact sandglassref10_Level.mono _ _ _ _ _ _ _ _ _ _)
      | (with_reducible exact sandglassref10_May.mono _ _ _ _ _ _ _ _ _)
      | (with_reducible exact LeO.refl _)
      | (with_reducible exact LeO.none _)
      | (with_reducible refine LeO.ite ?_ ?_)
      | (with_reducible refine LeO.bind ?_ (fun _ => ?_))
      | exact ih0 _ _ _ _ _ _ _ _ _ _ _
      | exact ih1 _ _ _ _ _ _ _ _ _ _ _
      | exact sandglassref10_Level.mono _ _ _ _ _ _ _ _ _ _
      | exact sandglassref10_May.mono _ _ _ _ _ _ _ _ _
      | exact LeO.none _
      | refine LeO.ite ?_ ?_
      | refine LeO.bind ?_ (fun _ => ?_)
set_option maxHeartbeats 40000000 in
set_option maxRecDepth 100000 in
theorem sandglassref10_Ask.calls (k : Nat) (a0_0 : Int) (a0_1 : Int) (a0_2 : Int) (a0_3 : Int) (a1_0 : Int) (a1_1 : Int) (P1_2_ : Nat → Prop) (A1_2 : Option Addr) (c1_2 : Nat) (l1_2 : List Int) (P1_3_ : Nat → Prop) (A1_3 : Option Addr) (c1_3 : Nat) (l1_3 : List (S57)) (a2 : Int) (a3 : Int) (r1 : Int) (r2 : Int) (r3 : List Int) (r4 : List (S57)) (r5 : Bool) (r6 : Int) (r7 : Int) (r8 : Int) (w : World) (hs1_2 : Kd.V (Kd.int .i64) 3 w w.heap.size (fun k_ => P1_2_ k_) (.slice A1_2 l1_2.length c1_2) l1_2) (hs1_3 : Kd.V k57 57 w w.heap.size (fun k_ => P1_3_ k_) (.slice A1_3 l1_3.length c1_3) l1_3) (h : sandglassref10_Ask.f k a0_0 a0_1 a0_2 a0_3 a1_0 a1_1 l1_2 l1_3 a2 a3 = some (r1, r2, r3, r4, r5, r6, r7, r8)) :
    Calls Try.prog 11 #[.agg #[.int .i64 a0_0, .int .i64 a0_1, .int .i64 a0_2, .int .i64 a0_3], .agg #[.int .i64 a1_0, .int .i64 a1_1, .slice A1_2 l1_2.length c1_2, .slice A1_3 l1_3.length c1_3], .int .i64 a2, .int .i64 a3] w fun e w' => ∃ v2_ v3_ : Value, e = .returned (.tuple #[.agg #[.int .i64 r1, .int .i64 r2, v2_, v3_], .agg #[.bool r5, .int .i64 r6, .int .i64 r7, .int .i64 r8]]) ∧ Kd.V (Kd.int .i64) 3 w' w.heap.size (fun k_ => ((P1_2_ k_ ∨ P1_3_ k_) ∨ w.heap.size ≤ k_)) v2_ r3 ∧ Kd.V k57 57 w' w.heap.size (fun k_ => ((P1_2_ k_ ∨ P1_3_ k_) ∨ w.heap.size ≤ k_)) v3_ r4 ∧ Below w.heap.size w w' := by
  have hu23 := Try.underlying23
  have hu27 := Try.underlying27
  have hu32 := Try.underlying32
  have HO1_2 := Aside0.mk (show Kd.V (Kd.int .i64) 3 w w.heap.size (fun k_ => ((P1_2_ k_ ∨ P1_3_ k_) ∨ w.heap.size ≤ k_)) (.slice A1_2 l1_2.length c1_2) l1_2 from Kd.V_mono hs1_2 (fun k_ hk => .inl (.inl hk)))
  have HO1_3 := Aside0.mk (show Kd.V k57 57 w w.heap.size (fun k_ => ((P1_2_ k_ ∨ P1_3_ k_) ∨ w.heap.size ≤ k_)) (.slice A1_3 l1_3.length c1_3) l1_3 from Kd.V_mono hs1_3 (fun k_ hk => .inl (.inr hk)))
  have HB := Aside0.mk (Below.refl w.heap.size w)
  have H : ((sandglassref10_May.f k a0_0 a0_1 a0_2 a0_3 a1_0 a1_1 l1_2 l1_3).bind fun t235 => (if t235 = true then ((sandglassref10_Time.f a2).bind fun t236 => (if t236 = true then ((sandglassref09_Weighs.f a3).bind fun t237 => (sandglassref10_Ask.j0 k a2 a3 (!t237) a0_0 a0_1 a0_2 a0_3 a1_0 a1_1 l1_2 l1_3)) else (sandglassref10_Ask.j0 k a2 a3 true a0_0 a0_1 a0_2 a0_3 a1_0 a1_1 l1_2 l1_3))) else (sandglassref10_Ask.j0 k a2 a3 true a0_0 a0_1 a0_2 a0_3 a1_0 a1_1 l1_2 l1_3))) = some (r1, r2, r3, r4, r5, r6, r7, r8) := h
  clear h
  have HC5 := Aside0.mk H
  clear H
  go_enter Try.func11, Try.ntmps11
  go_upto_region 1 with (first | ((with_reducible refine gate_dst (N := 4) rfl ?_); refine box_event ?hg (N := 4) ?hd (cs := #[.int .i64 a0_0, .int .i64 a0_1, .int .i64 a0_2, .int .i64 a0_3]) (t := 23) ?hr ?_; (case hd => rfl); (case hg => rfl); (case hr => first | (go_simp; done) | (go_simp; rfl)); intro gb231 hg w6 hbox hb; have BK231 := Aside0.mk (hbox); have GW231 := Aside0.mk ((by rw [hg]; exact (below_size (bl HB)) : w.heap.size ≤ gb231)); have GE231 := Aside0.mk ((by rw [hg]; exact (below_size (bl HB)) : w.heap.size ≤ gb231)); replace HO1_2 := ve HO1_2 hg hb; replace HO1_3 := ve HO1_3 hg hb; replace HB := Aside0.mk (below_step (bl HB) hb); clear hb hbox hg) | ((with_reducible refine gate_dst (N := 5) rfl ?_); refine box_event ?hg (N := 5) ?hd (cs := #[.int .i64 a1_0, .int .i64 a1_1, .slice A1_2 l1_2.length c1_2, .slice A1_3 l1_3.length c1_3]) (t := 27) ?hr ?_; (case hd => rfl); (case hg => rfl); (case hr => first | (go_simp; done) | (go_simp; rfl)); intro gb232 hg w7 hbox hb; have BK232 := Aside0.mk (hbox); have GW232 := Aside0.mk ((by rw [hg]; exact (below_size (bl HB)) : w.heap.size ≤ gb232)); have GE232 := Aside0.mk ((by rw [hg]; exact (below_size (bl HB)) : w.heap.size ≤ gb232)); have NB231_232 := nb BK231 hg; have NB232_231 := bn BK231 hg; replace HO1_2 := ve HO1_2 hg hb; replace HO1_3 := ve HO1_3 hg hb; replace BK231 := Aside0.mk (blk_below (bo BK231) hb); replace HB := Aside0.mk (below_step (bl HB) hb); clear hb hbox hg) | ((with_reducible refine gate_dst (N := 8) rfl ?_); refine box_event ?hg (N := 8) ?hd (cs := #[.int .i64 0, .int .i64 0, .slice none 0 0, .slice none 0 0]) (t := 27) ?hr ?_; (case hd => rfl); (case hg => rfl); (case hr => first | (go_simp; done) | (go_simp; rfl)); intro gb233 hg w8 hbox hb; have BK233 := Aside0.mk (hbox); have GW233 := Aside0.mk ((by rw [hg]; exact (below_size (bl HB)) : w.heap.size ≤ gb233)); have GE233 := Aside0.mk ((by rw [hg]; exact (below_size (bl HB)) : w.heap.size ≤ gb233)); have NB231_233 := nb BK231 hg; have NB233_231 := bn BK231 hg; have NB232_233 := nb BK232 hg; have NB233_232 := bn BK232 hg; replace HO1_2 := ve HO1_2 hg hb; replace HO1_3 := ve HO1_3 hg hb; replace BK231 := Aside0.mk (blk_below (bo BK231) hb); replace BK232 := Aside0.mk (blk_below (bo BK232) hb); replace HB := Aside0.mk (below_step (bl HB) hb); clear hb hbox hg) | ((with_reducible refine gate_dst (N := 9) rfl ?_); refine box_event ?hg (N := 9) ?hd (cs := #[.bool false, .int .i64 0, .int .i64 0, .int .i64 0]) (t := 32) ?hr ?_; (case hd => rfl); (case hg => rfl); (case hr => first | (go_simp; done) | (go_simp; rfl)); intro gb234 hg w9 hbox hb; have BK234 := Aside0.mk (hbox); have GW234 := Aside0.mk ((by rw [hg]; exact (below_size (bl HB)) : w.heap.size ≤ gb234)); have GE234 := Aside0.mk ((by rw [hg]; exact (below_size (bl HB)) : w.heap.size ≤ gb234)); have NB231_234 := nb BK231 hg; have NB234_231 := bn BK231 hg; have NB232_234 := nb BK232 hg; have NB234_232 := bn BK232 hg; have NB233_234 := nb BK233 hg; have NB234_233 := bn BK233 hg; replace HO1_2 := ve HO1_2 hg hb; replace HO1_3 := ve HO1_3 hg hb; replace BK231 := Aside0.mk (blk_below (bo BK231) hb); replace BK232 := Aside0.mk (blk_below (bo BK232) hb); replace BK233 := Aside0.mk (blk_below (bo BK233) hb); replace HB := Aside0.mk (below_step (bl HB) hb); clear hb hbox hg))
  (try simp only [Act.put, List.setIfInBounds_toArray, List.set_cons_zero, List.set_cons_succ])
  go_cut [26] (fun v26 wc => ∃ (kq : Nat) (x26_4 : Bool), v26 = .bool x26_4 ∧ Aside0 (sandglassref10_Ask.j0 kq a2 a3 x26_4 a0_0 a0_1 a0_2 a0_3 a1_0 a1_1 l1_2 l1_3 = some (r1, r2, r3, r4, r5, r6, r7, r8)) ∧ Aside0 (kq ≤ k) ∧ Aside0 (Kd.V (Kd.int .i64) 3 wc w.heap.size (fun k_ => ((P1_2_ k_ ∨ P1_3_ k_) ∨ w.heap.size ≤ k_) ∧ k_ ≠ gb231 ∧ k_ ≠ gb232 ∧ k_ ≠ gb233 ∧ k_ ≠ gb234) (.slice A1_2 l1_2.length c1_2) l1_2) ∧ Aside0 (Kd.V k57 57 wc w.heap.size (fun k_ => ((P1_2_ k_ ∨ P1_3_ k_) ∨ w.heap.size ≤ k_) ∧ k_ ≠ gb231 ∧ k_ ≠ gb232 ∧ k_ ≠ gb233 ∧ k_ ≠ gb234) (.slice A1_3 l1_3.length c1_3) l1_3) ∧ Aside0 (wc.heap[gb231]? = some (.cells #[.int .i64 a0_0, .int .i64 a0_1, .int .i64 a0_2, .int .i64 a0_3] 23 (0, 0))) ∧ Aside0 (wc.heap[gb232]? = some (.cells #[.int .i64 a1_0, .int .i64 a1_1, (.slice A1_2 l1_2.length c1_2), (.slice A1_3 l1_3.length c1_3)] 27 (0, 0))) ∧ Aside0 (wc.heap[gb233]? = some (.cells #[.int .i64 0, .int .i64 0, (.slice none 0 0), (.slice none 0 0)] 27 (0, 0))) ∧ Aside0 (wc.heap[gb234]? = some (.cells #[.bool false, .int .i64 0, .int .i64 0, .int .i64 0] 32 (0, 0))) ∧ Aside0 (Below w.heap.size w wc))
  case first =>
    have H := HC5.out
    clear HC5
    replace H := Option.bind_eq_some_iff.mp H
    obtain ⟨t235, A100, H⟩ := H
    have A10 := Aside0.mk A100
    clear A100
    by_cases c11 : t235 = true
    · subst c11
      rw [if_pos rfl] at H
      replace H := Option.bind_eq_some_iff.mp H
      obtain ⟨t236, A120, H⟩ := H
      have A12 := Aside0.mk A120
      clear A120
      by_cases c13 : t236 = true
      · subst c13
        rw [if_pos rfl] at H
        replace H := Option.bind_eq_some_iff.mp H
        obtain ⟨t237, A140, H⟩ := H
        have A14 := Aside0.mk A140
        clear A140
        have H' := Aside0.mk H
        clear H
        have hnb15 := NB231_232.out
        have hnc15 := NB232_231.out
        have hnb16 := NB231_233.out
        have hnc16 := NB233_231.out
        have hnb17 := NB231_234.out
        have hnc17 := NB234_231.out
        obtain ⟨hcz18_0, hcz18_1, hcz18_2, hcz18_3⟩ := ce4 BK231
        obtain ⟨hfz18_0, hfz18_1, hfz18_2, hfz18_3⟩ := fr4 BK231
        have hnb19 := NB232_233.out
        have hnc19 := NB233_232.out
        have hnb20 := NB232_234.out
        have hnc20 := NB234_232.out
        obtain ⟨hcz21_0, hcz21_1, hcz21_2, hcz21_3⟩ := ce4 BK232
        obtain ⟨hfz21_0, hfz21_1, hfz21_2, hfz21_3⟩ := fr4 BK232
        go_wp2_with (first | ((with_reducible refine gate_callee (f := 14) rfl ?_); refine goesL_ (some 15) rfl rfl Try.func14 (by kernel_rfl) rfl #[.agg #[.int .i64 a0_0, .int .i64 a0_1, .int .i64 a0_2, .int .i64 a0_3], .agg #[.int .i64 a1_0, .int .i64 a1_1, .slice A1_2 l1_2.length c1_2, .slice A1_3 l1_3.length c1_3]] rfl (by (try simp only [List.map_toArray, List.map_cons, List.map_nil]); first | done | rfl | (simp only [List.length_drop, List.length_take]; rfl)) ?_; (with_reducible refine (sandglassref10_May.calls k a0_0 a0_1 a0_2 a0_3 a1_0 a1_1 _ _ l1_2 _ _ l1_3 true _ ?side1 ?side2 ?side3 ?side4 A10.out).mono ?_); (case side1 => repeat (first | exact (Kd.V_reads' HO1_2.out).2.2 | (with_reducible refine Kd.C_alloc ?_ _) | (with_reducible refine Kd.C_drewN ?_ _) | (with_reducible refine Kd.C_drew ?_))); (case side2 => exact (Kd.V_reads' HO1_2.out).2.1); (case side3 => repeat (first | exact (Kd.V_reads' HO1_3.out).2.2 | (with_reducible refine Kd.C_alloc ?_ _) | (with_reducible refine Kd.C_drewN ?_ _) | (with_reducible refine Kd.C_drew ?_))); (case side4 => exact (Kd.V_reads' HO1_3.out).2.1); rintro e w22 ⟨rfl, hb⟩; refine ⟨_, rfl, ?_⟩; replace HO1_2 := vb HO1_2 hb; replace HO1_3 := vb HO1_3 hb; replace BK231 := Aside0.mk (blk_below (bo BK231) hb); replace BK232 := Aside0.mk (blk_below (bo BK232) hb); replace BK233 := Aside0.mk (blk_below (bo BK233) hb); replace BK234 := Aside0.mk (blk_below (bo BK234) hb); replace HB := Aside0.mk (below_step (bl HB) hb); (try clear hb); (try clear hb2); (try clear hk); (try clear hi)) | (go_at_call 27; (with_reducible refine (sandglassref10_Time.calls a2 true _ A12.out).mono ?_); rintro e w' ⟨rfl, ⟨nd, rfl⟩⟩) | (go_at_call 19; (with_reducible refine (sandglassref09_Weighs.calls a3 t237 _ A14.out).mono ?_); rintro e w' ⟨rfl, ⟨nd, rfl⟩⟩))
        go_meet
        case rel => exact ⟨_, (!t237), (by first | (with_reducible rfl) | rfl | (simp; done) | (simp [*]; done)), H', ⟨by first | omega | exact Nat.le_refl _⟩, ⟨by (with_reducible repeat (first | apply Kd.V_alloc | apply Kd.V_drewN | apply Kd.V_drew)); exact Kd.V_mono HO1_2.out (fun _ hk => ⟨hk.1.1.1.1, ⟨hk.1.1.1.2, ⟨hk.1.1.2, ⟨hk.1.2, hk.2⟩⟩⟩⟩)⟩, ⟨by (with_reducible repeat (first | apply Kd.V_alloc | apply Kd.V_drewN | apply Kd.V_drew)); exact Kd.V_mono HO1_3.out (fun _ hk => ⟨hk.1.1.1.1, ⟨hk.1.1.1.2, ⟨hk.1.1.2, ⟨hk.1.2, hk.2⟩⟩⟩⟩)⟩, ⟨bo BK231⟩, ⟨bo BK232⟩, ⟨bo BK233⟩, ⟨bo BK234⟩, ⟨bl HB⟩⟩
      · replace c13 := Bool.eq_false_iff.mpr c13
        subst c13
        rw [if_neg (show ¬ (false = true) by decide)] at H
        have H' := Aside0.mk H
        clear H
        have hnb23 := NB231_232.out
        have hnc23 := NB232_231.out
        have hnb24 := NB231_233.out
        have hnc24 := NB233_231.out
        have hnb25 := NB231_234.out
        have hnc25 := NB234_231.out
        obtain ⟨hcz26_0, hcz26_1, hcz26_2, hcz26_3⟩ := ce4 BK231
        obtain ⟨hfz26_0, hfz26_1, hfz26_2, hfz26_3⟩ := fr4 BK231
        have hnb27 := NB232_233.out
        have hnc27 := NB233_232.out
        have hnb28 := NB232_234.out
        have hnc28 := NB234_232.out
        obtain ⟨hcz29_0, hcz29_1, hcz29_2, hcz29_3⟩ := ce4 BK232
        obtain ⟨hfz29_0, hfz29_1, hfz29_2, hfz29_3⟩ := fr4 BK232
        go_wp2_with (first | ((with_reducible refine gate_callee (f := 14) rfl ?_); refine goesL_ (some 15) rfl rfl Try.func14 (by kernel_rfl) rfl #[.agg #[.int .i64 a0_0, .int .i64 a0_1, .int .i64 a0_2, .int .i64 a0_3], .agg #[.int .i64 a1_0, .int .i64 a1_1, .slice A1_2 l1_2.length c1_2, .slice A1_3 l1_3.length c1_3]] rfl (by (try simp only [List.map_toArray, List.map_cons, List.map_nil]); first | done | rfl | (simp only [List.length_drop, List.length_take]; rfl)) ?_; (with_reducible refine (sandglassref10_May.calls k a0_0 a0_1 a0_2 a0_3 a1_0 a1_1 _ _ l1_2 _ _ l1_3 true _ ?side1 ?side2 ?side3 ?side4 A10.out).mono ?_); (case side1 => repeat (first | exact (Kd.V_reads' HO1_2.out).2.2 | (with_reducible refine Kd.C_alloc ?_ _) | (with_reducible refine Kd.C_drewN ?_ _) | (with_reducible refine Kd.C_drew ?_))); (case side2 => exact (Kd.V_reads' HO1_2.out).2.1); (case side3 => repeat (first | exact (Kd.V_reads' HO1_3.out).2.2 | (with_reducible refine Kd.C_alloc ?_ _) | (with_reducible refine Kd.C_drewN ?_ _) | (with_reducible refine Kd.C_drew ?_))); (case side4 => exact (Kd.V_reads' HO1_3.out).2.1); rintro e w30 ⟨rfl, hb⟩; refine ⟨_, rfl, ?_⟩; replace HO1_2 := vb HO1_2 hb; replace HO1_3 := vb HO1_3 hb; replace BK231 := Aside0.mk (blk_below (bo BK231) hb); replace BK232 := Aside0.mk (blk_below (bo BK232) hb); replace BK233 := Aside0.mk (blk_below (bo BK233) hb); replace BK234 := Aside0.mk (blk_below (bo BK234) hb); replace HB := Aside0.mk (below_step (bl HB) hb); (try clear hb); (try clear hb2); (try clear hk); (try clear hi)) | (go_at_call 27; (with_reducible refine (sandglassref10_Time.calls a2 false _ A12.out).mono ?_); rintro e w' ⟨rfl, ⟨nd, rfl⟩⟩))
        go_meet
        case rel => exact ⟨_, (true), (by first | (with_reducible rfl) | rfl | (simp; done) | (simp [*]; done)), H', ⟨by first | omega | exact Nat.le_refl _⟩, ⟨by (with_reducible repeat (first | apply Kd.V_alloc | apply Kd.V_drewN | apply Kd.V_drew)); exact Kd.V_mono HO1_2.out (fun _ hk => ⟨hk.1.1.1.1, ⟨hk.1.1.1.2, ⟨hk.1.1.2, ⟨hk.1.2, hk.2⟩⟩⟩⟩)⟩, ⟨by (with_reducible repeat (first | apply Kd.V_alloc | apply Kd.V_drewN | apply Kd.V_drew)); exact Kd.V_mono HO1_3.out (fun _ hk => ⟨hk.1.1.1.1, ⟨hk.1.1.1.2, ⟨hk.1.1.2, ⟨hk.1.2, hk.2⟩⟩⟩⟩)⟩, ⟨bo BK231⟩, ⟨bo BK232⟩, ⟨bo BK233⟩, ⟨bo BK234⟩, ⟨bl HB⟩⟩
    · replace c11 := Bool.eq_false_iff.mpr c11
      subst c11
      rw [if_neg (show ¬ (false = true) by decide)] at H
      have H' := Aside0.mk H
      clear H
      have hnb31 := NB231_232.out
      have hnc31 := NB232_231.out
      have hnb32 := NB231_233.out
      have hnc32 := NB233_231.out
      have hnb33 := NB231_234.out
      have hnc33 := NB234_231.out
      obtain ⟨hcz34_0, hcz34_1, hcz34_2, hcz34_3⟩ := ce4 BK231
      obtain ⟨hfz34_0, hfz34_1, hfz34_2, hfz34_3⟩ := fr4 BK231
      have hnb35 := NB232_233.out
      have hnc35 := NB233_232.out
      have hnb36 := NB232_234.out
      have hnc36 := NB234_232.out
      obtain ⟨hcz37_0, hcz37_1, hcz37_2, hcz37_3⟩ := ce4 BK232
      obtain ⟨hfz37_0, hfz37_1, hfz37_2, hfz37_3⟩ := fr4 BK232
      go_wp2_with (first | ((with_reducible refine gate_callee (f := 14) rfl ?_); refine goesL_ (some 15) rfl rfl Try.func14 (by kernel_rfl) rfl #[.agg #[.int .i64 a0_0, .int .i64 a0_1, .int .i64 a0_2, .int .i64 a0_3], .agg #[.int .i64 a1_0, .int .i64 a1_1, .slice A1_2 l1_2.length c1_2, .slice A1_3 l1_3.length c1_3]] rfl (by (try simp only [List.map_toArray, List.map_cons, List.map_nil]); first | done | rfl | (simp only [List.length_drop, List.length_take]; rfl)) ?_; (with_reducible refine (sandglassref10_May.calls k a0_0 a0_1 a0_2 a0_3 a1_0 a1_1 _ _ l1_2 _ _ l1_3 false _ ?side1 ?side2 ?side3 ?side4 A10.out).mono ?_); (case side1 => repeat (first | exact (Kd.V_reads' HO1_2.out).2.2 | (with_reducible refine Kd.C_alloc ?_ _) | (with_reducible refine Kd.C_drewN ?_ _) | (with_reducible refine Kd.C_drew ?_))); (case side2 => exact (Kd.V_reads' HO1_2.out).2.1); (case side3 => repeat (first | exact (Kd.V_reads' HO1_3.out).2.2 | (with_reducible refine Kd.C_alloc ?_ _) | (with_reducible refine Kd.C_drewN ?_ _) | (with_reducible refine Kd.C_drew ?_))); (case side4 => exact (Kd.V_reads' HO1_3.out).2.1); rintro e w38 ⟨rfl, hb⟩; refine ⟨_, rfl, ?_⟩; replace HO1_2 := vb HO1_2 hb; replace HO1_3 := vb HO1_3 hb; replace BK231 := Aside0.mk (blk_below (bo BK231) hb); replace BK232 := Aside0.mk (blk_below (bo BK232) hb); replace BK233 := Aside0.mk (blk_below (bo BK233) hb); replace BK234 := Aside0.mk (blk_below (bo BK234) hb); replace HB := Aside0.mk (below_step (bl HB) hb); (try clear hb); (try clear hb2); (try clear hk); (try clear hi)))
      go_meet
      case rel => exact ⟨_, (true), (by first | (with_reducible rfl) | rfl | (simp; done) | (simp [*]; done)), H', ⟨by first | omega | exact Nat.le_refl _⟩, ⟨by (with_reducible repeat (first | apply Kd.V_alloc | apply Kd.V_drewN | apply Kd.V_drew)); exact Kd.V_mono HO1_2.out (fun _ hk => ⟨hk.1.1.1.1, ⟨hk.1.1.1.2, ⟨hk.1.1.2, ⟨hk.1.2, hk.2⟩⟩⟩⟩)⟩, ⟨by (with_reducible repeat (first | apply Kd.V_alloc | apply Kd.V_drewN | apply Kd.V_drew)); exact Kd.V_mono HO1_3.out (fun _ hk => ⟨hk.1.1.1.1, ⟨hk.1.1.1.2, ⟨hk.1.1.2, ⟨hk.1.2, hk.2⟩⟩⟩⟩)⟩, ⟨bo BK231⟩, ⟨bo BK232⟩, ⟨bo BK233⟩, ⟨bo BK234⟩, ⟨bl HB⟩⟩
  case rest =>
    clear HC5
    try clear c1
    try clear c2
    try clear p2
    try clear c3
    try clear c11
    try clear c13
    try clear c14
    try clear c15
    try clear c16
    try clear c17
    try clear c19
    try clear c20
    try clear c23
    try clear c24
    try clear c25
    try clear c27
    try clear c28
    try clear c31
    try clear c32
    try clear c33
    try clear c35
    try clear c36
    try clear hcz18_0
    try clear hcz18_1
    try clear hcz18_2
    try clear hcz18_3
    try clear hcz21_0
    try clear hcz21_1
    try clear hcz21_2
    try clear hcz21_3
    try clear hcz26_0
    try clear hcz26_1
    try clear hcz26_2
    try clear hcz26_3
    try clear hcz29_0
    try clear hcz29_1
    try clear hcz29_2
    try clear hcz29_3
    try clear hcz34_0
    try clear hcz34_1
    try clear hcz34_2
    try clear hcz34_3
    try clear hcz37_0
    try clear hcz37_1
    try clear hcz37_2
    try clear hcz37_3
    try clear hfz18_0
    try clear hfz18_1
    try clear hfz18_2
    try clear hfz18_3
    try clear hfz21_0
    try clear hfz21_1
    try clear hfz21_2
    try clear hfz21_3
    try clear hfz26_0
    try clear hfz26_1
    try clear hfz26_2
    try clear hfz26_3
    try clear hfz29_0
    try clear hfz29_1
    try clear hfz29_2
    try clear hfz29_3
    try clear hfz34_0
    try clear hfz34_1
    try clear hfz34_2
    try clear hfz34_3
    try clear hfz37_0
    try clear hfz37_1
    try clear hfz37_2
    try clear hfz37_3
    obtain ⟨kq, x26_4, rfl, HA, HJ4, HO_233002, HO_233003, BK231, BK232, BK233, BK234, HB⟩ := hcut
    cases kq with
    | zero => exact absurd HA.out (by simp [sandglassref10_Ask.j0])
    | succ kj4 =>
      have H := HA.out
      clear HA
      simp only [sandglassref10_Ask.j0] at H
      by_cases c39 : x26_4 = true
      · subst c39
        rw [if_pos rfl] at H
        simp only [Option.some.injEq, Prod.mk.injEq] at H
        obtain ⟨rfl, rfl, rfl, rfl, rfl, rfl, rfl, rfl⟩ := H
        have hnb40 := NB232_231.out
        have hnc40 := NB231_232.out
        have hnb41 := NB232_233.out
        have hnc41 := NB233_232.out
        have hnb42 := NB232_234.out
        have hnc42 := NB234_232.out
        obtain ⟨hcz43_0, hcz43_1, hcz43_2, hcz43_3⟩ := ce4 BK232
        obtain ⟨hfz43_0, hfz43_1, hfz43_2, hfz43_3⟩ := fr4 BK232
        have hnb44 := NB233_231.out
        have hnc44 := NB231_233.out
        have hnb45 := NB233_234.out
        have hnc45 := NB234_233.out
        obtain ⟨hcz46_0, hcz46_1, hcz46_2, hcz46_3⟩ := ce4 BK233
        obtain ⟨hfz46_0, hfz46_1, hfz46_2, hfz46_3⟩ := fr4 BK233
        have hnb47 := NB234_231.out
        have hnc47 := NB231_234.out
        obtain ⟨hcz48_0, hcz48_1, hcz48_2, hcz48_3⟩ := ce4 BK234
        obtain ⟨hfz48_0, hfz48_1, hfz48_2, hfz48_3⟩ := fr4 BK234
        go_wp2
        refine bodyPost_ret (results_cc rfl _ _ gb233 gb234 27 32 #[.int .i64 a1_0, .int .i64 a1_1, .slice A1_2 l1_2.length c1_2, .slice A1_3 l1_3.length c1_3] #[.bool false, .int .i64 0, .int .i64 0, .int .i64 0] (0, 0) (0, 0) _ _ rfl (by (with_reducible repeat (first | refine blk_drewN ?_ _ | refine blk_drew ?_ | refine blk_alloc ?_ _)); refine blk_far ?_ NB233_234.out _; (with_reducible repeat (first | refine blk_drewN ?_ _ | refine blk_drew ?_ | refine blk_alloc ?_ _)); refine blk_far ?_ NB233_234.out _; (with_reducible repeat (first | refine blk_drewN ?_ _ | refine blk_drew ?_ | refine blk_alloc ?_ _)); refine blk_far ?_ NB233_234.out _; (with_reducible repeat (first | refine blk_drewN ?_ _ | refine blk_drew ?_ | refine blk_alloc ?_ _)); refine blk_far ?_ NB233_234.out _; (with_reducible repeat (first | refine blk_drewN ?_ _ | refine blk_drew ?_ | refine blk_alloc ?_ _)); refine blk_put (cs := #[.int .i64 a1_0, .int .i64 a1_1, .slice A1_2 l1_2.length c1_2, .slice none 0 0]) ?_ 3 _ rfl; (with_reducible repeat (first | refine blk_drewN ?_ _ | refine blk_drew ?_ | refine blk_alloc ?_ _)); refine blk_put (cs := #[.int .i64 a1_0, .int .i64 a1_1, .slice none 0 0, .slice none 0 0]) ?_ 2 _ rfl; (with_reducible repeat (first | refine blk_drewN ?_ _ | refine blk_drew ?_ | refine blk_alloc ?_ _)); refine blk_put (cs := #[.int .i64 a1_0, .int .i64 0, .slice none 0 0, .slice none 0 0]) ?_ 1 _ rfl; (with_reducible repeat (first | refine blk_drewN ?_ _ | refine blk_drew ?_ | refine blk_alloc ?_ _)); refine blk_put (cs := #[.int .i64 0, .int .i64 0, .slice none 0 0, .slice none 0 0]) ?_ 0 _ rfl; (with_reducible repeat (first | refine blk_drewN ?_ _ | refine blk_drew ?_ | refine blk_alloc ?_ _)); exact BK233.out) Try.underlying27 rfl (by kernel_rfl) rfl (by (with_reducible repeat (first | refine blk_drewN ?_ _ | refine blk_drew ?_ | refine blk_alloc ?_ _)); refine blk_put (cs := #[.bool false, .int .i64 0, .int .i64 0, .int .i64 0]) ?_ 3 _ rfl; (with_reducible repeat (first | refine blk_drewN ?_ _ | refine blk_drew ?_ | refine blk_alloc ?_ _)); refine blk_put (cs := #[.bool false, .int .i64 0, .int .i64 0, .int .i64 0]) ?_ 2 _ rfl; (with_reducible repeat (first | refine blk_drewN ?_ _ | refine blk_drew ?_ | refine blk_alloc ?_ _)); refine blk_put (cs := #[.bool false, .int .i64 0, .int .i64 0, .int .i64 0]) ?_ 1 _ rfl; (with_reducible repeat (first | refine blk_drewN ?_ _ | refine blk_drew ?_ | refine blk_alloc ?_ _)); refine blk_put (cs := #[.bool false, .int .i64 0, .int .i64 0, .int .i64 0]) ?_ 0 _ rfl; (with_reducible repeat (first | refine blk_drewN ?_ _ | refine blk_drew ?_ | refine blk_alloc ?_ _)); refine blk_far ?_ NB234_233.out _; (with_reducible repeat (first | refine blk_drewN ?_ _ | refine blk_drew ?_ | refine blk_alloc ?_ _)); refine blk_far ?_ NB234_233.out _; (with_reducible repeat (first | refine blk_drewN ?_ _ | refine blk_drew ?_ | refine blk_alloc ?_ _)); refine blk_far ?_ NB234_233.out _; (with_reducible repeat (first | refine blk_drewN ?_ _ | refine blk_drew ?_ | refine blk_alloc ?_ _)); refine blk_far ?_ NB234_233.out _; (with_reducible repeat (first | refine blk_drewN ?_ _ | refine blk_drew ?_ | refine blk_alloc ?_ _)); exact BK234.out) Try.underlying32 rfl (by kernel_rfl)) rfl ?_
        exact ⟨_, _, by first | (with_reducible rfl) | rfl | (simp [errW_none, errW_some] <;> rfl) | (simp [*, errW_none, errW_some] <;> rfl), by (with_reducible repeat (first | apply Kd.V_alloc | apply Kd.V_drewN | apply Kd.V_drew)); exact Kd.V_mono (Kd.V_far (p := ⟨gb234, 3, none⟩) (Kd.V_far (p := ⟨gb234, 2, none⟩) (Kd.V_far (p := ⟨gb234, 1, none⟩) (Kd.V_far (p := ⟨gb234, 0, none⟩) (Kd.V_far (p := ⟨gb233, 3, none⟩) (Kd.V_far (p := ⟨gb233, 2, none⟩) (Kd.V_far (p := ⟨gb233, 1, none⟩) (Kd.V_far (p := ⟨gb233, 0, none⟩) (Kd.V_mono (Kd.V_mono HO_233002.out (fun k_ hk => (⟨hk, hk.2.2.2.1⟩ : _ ∧ k_ ≠ gb233))) (fun k_ hk => (⟨hk, hk.1.2.2.2.2⟩ : _ ∧ k_ ≠ gb234))) (fun _ hk => hk.1.2) (.int .i64 a1_0)) (fun _ hk => hk.1.2) (.int .i64 a1_1)) (fun _ hk => hk.1.2) (.slice A1_2 l1_2.length c1_2)) (fun _ hk => hk.1.2) (.slice A1_3 l1_3.length c1_3)) (fun _ hk => hk.2) (.bool false)) (fun _ hk => hk.2) (.int .i64 0)) (fun _ hk => hk.2) (.int .i64 0)) (fun _ hk => hk.2) (.int .i64 0)) (fun _ hk => hk.1.1.1), by (with_reducible repeat (first | apply Kd.V_alloc | apply Kd.V_drewN | apply Kd.V_drew)); exact Kd.V_mono (Kd.V_far (p := ⟨gb234, 3, none⟩) (Kd.V_far (p := ⟨gb234, 2, none⟩) (Kd.V_far (p := ⟨gb234, 1, none⟩) (Kd.V_far (p := ⟨gb234, 0, none⟩) (Kd.V_far (p := ⟨gb233, 3, none⟩) (Kd.V_far (p := ⟨gb233, 2, none⟩) (Kd.V_far (p := ⟨gb233, 1, none⟩) (Kd.V_far (p := ⟨gb233, 0, none⟩) (Kd.V_mono (Kd.V_mono HO_233003.out (fun k_ hk => (⟨hk, hk.2.2.2.1⟩ : _ ∧ k_ ≠ gb233))) (fun k_ hk => (⟨hk, hk.1.2.2.2.2⟩ : _ ∧ k_ ≠ gb234))) (fun _ hk => hk.1.2) (.int .i64 a1_0)) (fun _ hk => hk.1.2) (.int .i64 a1_1)) (fun _ hk => hk.1.2) (.slice A1_2 l1_2.length c1_2)) (fun _ hk => hk.1.2) (.slice A1_3 l1_3.length c1_3)) (fun _ hk => hk.2) (.bool false)) (fun _ hk => hk.2) (.int .i64 0)) (fun _ hk => hk.2) (.int .i64 0)) (fun _ hk => hk.2) (.int .i64 0)) (fun _ hk => hk.1.1.1), bl HB⟩
      · replace c39 := Bool.eq_false_iff.mpr c39
        subst c39
        rw [if_neg (show ¬ (false = true) by decide)] at H
        obtain ⟨ji49, hji49⟩ : ∃ j_ : Int, (mx a2 a1_0) = j_ := ⟨_, rfl⟩
        replace H : ((sandglassref10_Level.f kj4 a0_0 a0_1 a0_2 a0_3 a1_0 a1_1 l1_2 l1_3 (ji49)).bind fun t238 => (if (wrap64 (t238 + (wrap64 (a3 * a0_2)))) ≤ (wrap64 (a0_1 * a0_2)) then (sandglassref10_Ask.j1 kj4 ji49 (wrap64 (t238 + (wrap64 (a3 * a0_2)))) (wrap64 (a0_1 * a0_2)) a0_0 a0_1 a0_2 a0_3 (decide ((wrap64 (t238 + (wrap64 (a3 * a0_2)))) ≤ (wrap64 (a0_1 * a0_2)))) 0 0 0) else (if a3 > a0_1 then (sandglassref10_Ask.j1 kj4 ji49 t238 (wrap64 (a0_1 * a0_2)) a0_0 a0_1 a0_2 a0_3 (decide ((wrap64 (t238 + (wrap64 (a3 * a0_2)))) ≤ (wrap64 (a0_1 * a0_2)))) 0 2199023255552 0) else ((sandglassref10_Up.f (wrap64 ((wrap64 (t238 + (wrap64 (a3 * a0_2)))) - (wrap64 (a0_1 * a0_2)))) a0_1).bind fun t240 => (sandglassref10_Ask.j1 kj4 ji49 t238 (wrap64 (a0_1 * a0_2)) a0_0 a0_1 a0_2 a0_3 (decide ((wrap64 (t238 + (wrap64 (a3 * a0_2)))) ≤ (wrap64 (a0_1 * a0_2)))) 0 t240 0))))) = some (r1, r2, r3, r4, r5, r6, r7, r8) := by first | (rw [hji49] at H; exact H) | (simp only [hji49] at H ⊢; exact H)
        have hji49_ : (if a2 < a1_0 then a1_0 else a2) = ji49 := hji49
        replace H := Option.bind_eq_some_iff.mp H
        obtain ⟨t238, A500, H⟩ := H
        have A50 := Aside0.mk A500
        clear A500
        have HC51 := Aside0.mk H
        clear H
        have hnb52 := NB232_231.out
        have hnc52 := NB231_232.out
        have hnb53 := NB232_233.out
        have hnc53 := NB233_232.out
        have hnb54 := NB232_234.out
        have hnc54 := NB234_232.out
        obtain ⟨hcz55_0, hcz55_1, hcz55_2, hcz55_3⟩ := ce4 BK232
        obtain ⟨hfz55_0, hfz55_1, hfz55_2, hfz55_3⟩ := fr4 BK232
        have hnb56 := NB231_233.out
        have hnc56 := NB233_231.out
        have hnb57 := NB231_234.out
        have hnc57 := NB234_231.out
        obtain ⟨hcz58_0, hcz58_1, hcz58_2, hcz58_3⟩ := ce4 BK231
        obtain ⟨hfz58_0, hfz58_1, hfz58_2, hfz58_3⟩ := fr4 BK231
        go_upto_if 52 with (first | ((with_reducible refine gate_callee (f := 16) rfl ?_); refine goesL_ (some 36) rfl rfl Try.func16 (by kernel_rfl) rfl #[.agg #[.int .i64 a0_0, .int .i64 a0_1, .int .i64 a0_2, .int .i64 a0_3], .agg #[.int .i64 a1_0, .int .i64 a1_1, .slice A1_2 l1_2.length c1_2, .slice A1_3 l1_3.length c1_3], .int .i64 ji49] rfl (by (try simp only [List.map_toArray, List.map_cons, List.map_nil]); first | done | (simp only [hji49]; rfl) | rfl | (simp only [List.length_drop, List.length_take]; rfl)) ?_; (with_reducible refine (sandglassref10_Level.calls kj4 a0_0 a0_1 a0_2 a0_3 a1_0 a1_1 _ _ l1_2 _ _ l1_3 ji49 t238 _ ?side1 ?side2 ?side3 ?side4 A50.out).mono ?_); (case side1 => repeat (first | exact (Kd.V_reads' HO_233002.out).2.2 | (with_reducible refine Kd.C_alloc ?_ _) | (with_reducible refine Kd.C_drewN ?_ _) | (with_reducible refine Kd.C_drew ?_))); (case side2 => exact (Kd.V_reads' HO_233002.out).2.1); (case side3 => repeat (first | exact (Kd.V_reads' HO_233003.out).2.2 | (with_reducible refine Kd.C_alloc ?_ _) | (with_reducible refine Kd.C_drewN ?_ _) | (with_reducible refine Kd.C_drew ?_))); (case side4 => exact (Kd.V_reads' HO_233003.out).2.1); rintro e w59 ⟨rfl, hb⟩; refine ⟨_, rfl, ?_⟩; replace HO_233002 := vb HO_233002 hb; replace HO_233003 := vb HO_233003 hb; replace BK231 := Aside0.mk (blk_below (bo BK231) hb); replace BK232 := Aside0.mk (blk_below (bo BK232) hb); replace BK233 := Aside0.mk (blk_below (bo BK233) hb); replace BK234 := Aside0.mk (blk_below (bo BK234) hb); replace HB := Aside0.mk (below_step (bl HB) hb); (try clear hb); (try clear hb2); (try clear hk); (try clear hi); obtain ⟨hcz60_0, hcz60_1, hcz60_2, hcz60_3⟩ := ce4 BK231; obtain ⟨hfz60_0, hfz60_1, hfz60_2, hfz60_3⟩ := fr4 BK231) | ((with_reducible refine gate_dst (N := 12) rfl ?_); refine box_event ?hg (N := 12) ?hd (cs := #[.bool false, .int .i64 0, .int .i64 0, .int .i64 0]) (t := 32) ?hr ?_; (case hd => rfl); (case hg => rfl); (case hr => first | (go_simp; done) | (go_simp; rfl)); intro gb239 hg w61 hbox hb; have BK239 := Aside0.mk (hbox); have GW239 := Aside0.mk ((by rw [hg]; exact (below_size (bl HB)) : w.heap.size ≤ gb239)); have GE239 := Aside0.mk ((by rw [hg]; exact (below_size (bl HB)) : w.heap.size ≤ gb239)); have NB231_239 := nb BK231 hg; have NB239_231 := bn BK231 hg; have NB232_239 := nb BK232 hg; have NB239_232 := bn BK232 hg; have NB233_239 := nb BK233 hg; have NB239_233 := bn BK233 hg; have NB234_239 := nb BK234 hg; have NB239_234 := bn BK234 hg; replace HO_233002 := ve HO_233002 hg hb; replace HO_233003 := ve HO_233003 hg hb; replace BK231 := Aside0.mk (blk_below (bo BK231) hb); replace BK232 := Aside0.mk (blk_below (bo BK232) hb); replace BK233 := Aside0.mk (blk_below (bo BK233) hb); replace BK234 := Aside0.mk (blk_below (bo BK234) hb); replace HB := Aside0.mk (below_step (bl HB) hb); clear hb hbox hg; have hnb62 := NB239_231.out; have hnc62 := NB231_239.out; have hnb63 := NB239_232.out; have hnc63 := NB232_239.out; have hnb64 := NB239_233.out; have hnc64 := NB233_239.out; have hnb65 := NB239_234.out; have hnc65 := NB234_239.out; obtain ⟨hcz66_0, hcz66_1, hcz66_2, hcz66_3⟩ := ce4 BK239; obtain ⟨hfz66_0, hfz66_1, hfz66_2, hfz66_3⟩ := fr4 BK239))
        (try simp only [Act.put, List.setIfInBounds_toArray, List.set_cons_zero, List.set_cons_succ])
        go_cut [10] (fun v10 wc => ∃ (kq : Nat) (x10_50 : Int) (x240002_50 : Int), v10 = .int .i64 x10_50 ∧ Aside0 (sandglassref10_Ask.j1 kq ji49 x10_50 (wrap64 (a0_1 * a0_2)) a0_0 a0_1 a0_2 a0_3 (decide ((wrap64 (t238 + (wrap64 (a3 * a0_2)))) ≤ (wrap64 (a0_1 * a0_2)))) 0 x240002_50 0 = some (r1, r2, r3, r4, r5, r6, r7, r8)) ∧ Aside0 (kq ≤ kj4) ∧ Aside0 (Kd.V (Kd.int .i64) 3 wc w.heap.size (fun k_ => ((P1_2_ k_ ∨ P1_3_ k_) ∨ w.heap.size ≤ k_) ∧ k_ ≠ gb231 ∧ k_ ≠ gb232 ∧ k_ ≠ gb233 ∧ k_ ≠ gb234 ∧ k_ ≠ gb239) (.slice A1_2 l1_2.length c1_2) l1_2) ∧ Aside0 (Kd.V k57 57 wc w.heap.size (fun k_ => ((P1_2_ k_ ∨ P1_3_ k_) ∨ w.heap.size ≤ k_) ∧ k_ ≠ gb231 ∧ k_ ≠ gb232 ∧ k_ ≠ gb233 ∧ k_ ≠ gb234 ∧ k_ ≠ gb239) (.slice A1_3 l1_3.length c1_3) l1_3) ∧ Aside0 (wc.heap[gb231]? = some (.cells #[.int .i64 a0_0, .int .i64 a0_1, .int .i64 a0_2, .int .i64 a0_3] 23 (0, 0))) ∧ Aside0 (wc.heap[gb232]? = some (.cells #[.int .i64 a1_0, .int .i64 a1_1, (.slice A1_2 l1_2.length c1_2), (.slice A1_3 l1_3.length c1_3)] 27 (0, 0))) ∧ Aside0 (wc.heap[gb233]? = some (.cells #[.int .i64 0, .int .i64 0, (.slice none 0 0), (.slice none 0 0)] 27 (0, 0))) ∧ Aside0 (wc.heap[gb234]? = some (.cells #[.bool false, .int .i64 0, .int .i64 0, .int .i64 0] 32 (0, 0))) ∧ Aside0 (wc.heap[gb239]? = some (.cells #[.bool (decide ((wrap64 (t238 + (wrap64 (a3 * a0_2)))) ≤ (wrap64 (a0_1 * a0_2)))), .int .i64 0, .int .i64 x240002_50, .int .i64 0] 32 (0, 0))) ∧ Aside0 (Below w.heap.size w wc))
        case first =>
          have H := HC51.out
          clear HC51
          by_cases c67 : (wrap64 (t238 + (wrap64 (a3 * a0_2)))) ≤ (wrap64 (a0_1 * a0_2))
          · rw [if_pos c67] at H
            have c67b0 : decide ((wrap64 (t238 + (wrap64 (a3 * a0_2)))) ≤ (wrap64 (a0_1 * a0_2))) = true := decide_eq_true c67
            clear c67
            (first | rw [c67b0] | (simp only [i64_w, i32_w]; rw [c67b0]) | skip)
            have H' := Aside0.mk H
            clear H
            have hnb68 := NB231_232.out
            have hnc68 := NB232_231.out
            have hnb69 := NB231_233.out
            have hnc69 := NB233_231.out
            have hnb70 := NB231_234.out
            have hnc70 := NB234_231.out
            have hnb71 := NB231_239.out
            have hnc71 := NB239_231.out
            obtain ⟨hcz72_0, hcz72_1, hcz72_2, hcz72_3⟩ := ce4 BK231
            obtain ⟨hfz72_0, hfz72_1, hfz72_2, hfz72_3⟩ := fr4 BK231
            go_wp2
            go_meet
            case rel => exact ⟨_, (wrap64 (t238 + (wrap64 (a3 * a0_2)))), (0), (by first | (with_reducible rfl) | rfl | (simp; done) | (simp [*]; done)), H', ⟨by have := HJ4.out; first | omega | exact Nat.le_refl _⟩, ⟨by (with_reducible repeat (first | apply Kd.V_alloc | apply Kd.V_drewN | apply Kd.V_drew)); exact Kd.V_mono (Kd.V_far (p := ⟨gb239, 3, none⟩) (Kd.V_far (p := ⟨gb239, 2, none⟩) (Kd.V_far (p := ⟨gb239, 1, none⟩) (Kd.V_far (p := ⟨gb239, 0, none⟩) (Kd.V_mono HO_233002.out (fun k_ hk => (⟨hk, hk.2⟩ : _ ∧ k_ ≠ gb239))) (fun _ hk => hk.2) (.bool true)) (fun _ hk => hk.2) (.int .i64 0)) (fun _ hk => hk.2) (.int .i64 0)) (fun _ hk => hk.2) (.int .i64 0)) (fun _ hk => ⟨hk.1.1.1, ⟨hk.1.1.2.1, ⟨hk.1.1.2.2.1, ⟨hk.1.1.2.2.2.1, ⟨hk.1.1.2.2.2.2, hk.1.2⟩⟩⟩⟩⟩)⟩, ⟨by (with_reducible repeat (first | apply Kd.V_alloc | apply Kd.V_drewN | apply Kd.V_drew)); exact Kd.V_mono (Kd.V_far (p := ⟨gb239, 3, none⟩) (Kd.V_far (p := ⟨gb239, 2, none⟩) (Kd.V_far (p := ⟨gb239, 1, none⟩) (Kd.V_far (p := ⟨gb239, 0, none⟩) (Kd.V_mono HO_233003.out (fun k_ hk => (⟨hk, hk.2⟩ : _ ∧ k_ ≠ gb239))) (fun _ hk => hk.2) (.bool true)) (fun _ hk => hk.2) (.int .i64 0)) (fun _ hk => hk.2) (.int .i64 0)) (fun _ hk => hk.2) (.int .i64 0)) (fun _ hk => ⟨hk.1.1.1, ⟨hk.1.1.2.1, ⟨hk.1.1.2.2.1, ⟨hk.1.1.2.2.2.1, ⟨hk.1.1.2.2.2.2, hk.1.2⟩⟩⟩⟩⟩)⟩, ⟨by (with_reducible repeat (first | refine blk_drewN ?_ _ | refine blk_drew ?_ | refine blk_alloc ?_ _)); refine blk_far ?_ NB231_239.out _; (with_reducible repeat (first | refine blk_drewN ?_ _ | refine blk_drew ?_ | refine blk_alloc ?_ _)); refine blk_far ?_ NB231_239.out _; (with_reducible repeat (first | refine blk_drewN ?_ _ | refine blk_drew ?_ | refine blk_alloc ?_ _)); refine blk_far ?_ NB231_239.out _; (with_reducible repeat (first | refine blk_drewN ?_ _ | refine blk_drew ?_ | refine blk_alloc ?_ _)); refine blk_far ?_ NB231_239.out _; (with_reducible repeat (first | refine blk_drewN ?_ _ | refine blk_drew ?_ | refine blk_alloc ?_ _)); exact BK231.out⟩, ⟨by (with_reducible repeat (first | refine blk_drewN ?_ _ | refine blk_drew ?_ | refine blk_alloc ?_ _)); refine blk_far ?_ NB232_239.out _; (with_reducible repeat (first | refine blk_drewN ?_ _ | refine blk_drew ?_ | refine blk_alloc ?_ _)); refine blk_far ?_ NB232_239.out _; (with_reducible repeat (first | refine blk_drewN ?_ _ | refine blk_drew ?_ | refine blk_alloc ?_ _)); refine blk_far ?_ NB232_239.out _; (with_reducible repeat (first | refine blk_drewN ?_ _ | refine blk_drew ?_ | refine blk_alloc ?_ _)); refine blk_far ?_ NB232_239.out _; (with_reducible repeat (first | refine blk_drewN ?_ _ | refine blk_drew ?_ | refine blk_alloc ?_ _)); exact BK232.out⟩, ⟨by (with_reducible repeat (first | refine blk_drewN ?_ _ | refine blk_drew ?_ | refine blk_alloc ?_ _)); refine blk_far ?_ NB233_239.out _; (with_reducible repeat (first | refine blk_drewN ?_ _ | refine blk_drew ?_ | refine blk_alloc ?_ _)); refine blk_far ?_ NB233_239.out _; (with_reducible repeat (first | refine blk_drewN ?_ _ | refine blk_drew ?_ | refine blk_alloc ?_ _)); refine blk_far ?_ NB233_239.out _; (with_reducible repeat (first | refine blk_drewN ?_ _ | refine blk_drew ?_ | refine blk_alloc ?_ _)); refine blk_far ?_ NB233_239.out _; (with_reducible repeat (first | refine blk_drewN ?_ _ | refine blk_drew ?_ | refine blk_alloc ?_ _)); exact BK233.out⟩, ⟨by (with_reducible repeat (first | refine blk_drewN ?_ _ | refine blk_drew ?_ | refine blk_alloc ?_ _)); refine blk_far ?_ NB234_239.out _; (with_reducible repeat (first | refine blk_drewN ?_ _ | refine blk_drew ?_ | refine blk_alloc ?_ _)); refine blk_far ?_ NB234_239.out _; (with_reducible repeat (first | refine blk_drewN ?_ _ | refine blk_drew ?_ | refine blk_alloc ?_ _)); refine blk_far ?_ NB234_239.out _; (with_reducible repeat (first | refine blk_drewN ?_ _ | refine blk_drew ?_ | refine blk_alloc ?_ _)); refine blk_far ?_ NB234_239.out _; (with_reducible repeat (first | refine blk_drewN ?_ _ | refine blk_drew ?_ | refine blk_alloc ?_ _)); exact BK234.out⟩, ⟨by (with_reducible repeat (first | refine blk_drewN ?_ _ | refine blk_drew ?_ | refine blk_alloc ?_ _)); refine blk_put (cs := #[.bool true, .int .i64 0, .int .i64 0, .int .i64 0]) ?_ 3 _ (by first | rfl | (rw [c67b0]; rfl)); (with_reducible repeat (first | refine blk_drewN ?_ _ | refine blk_drew ?_ | refine blk_alloc ?_ _)); refine blk_put (cs := #[.bool true, .int .i64 0, .int .i64 0, .int .i64 0]) ?_ 2 _ (by first | rfl | (rw [c67b0]; rfl)); (with_reducible repeat (first | refine blk_drewN ?_ _ | refine blk_drew ?_ | refine blk_alloc ?_ _)); refine blk_put (cs := #[.bool true, .int .i64 0, .int .i64 0, .int .i64 0]) ?_ 1 _ (by first | rfl | (rw [c67b0]; rfl)); (with_reducible repeat (first | refine blk_drewN ?_ _ | refine blk_drew ?_ | refine blk_alloc ?_ _)); refine blk_put (cs := #[.bool false, .int .i64 0, .int .i64 0, .int .i64 0]) ?_ 0 _ rfl; (with_reducible repeat (first | refine blk_drewN ?_ _ | refine blk_drew ?_ | refine blk_alloc ?_ _)); exact BK239.out⟩, ⟨bl HB⟩⟩
          · rw [if_neg c67] at H
            have c67b0 : decide ((wrap64 (t238 + (wrap64 (a3 * a0_2)))) ≤ (wrap64 (a0_1 * a0_2))) = false := decide_eq_false c67
            clear c67
            (first | rw [c67b0] | (simp only [i64_w, i32_w]; rw [c67b0]) | skip)
            by_cases c73 : a3 > a0_1
            · rw [if_pos c73] at H
              have c73b0 : decide (a0_1 < a3) = true := decide_eq_true c73
              clear c73
              have H' := Aside0.mk H
              clear H
              have hnb74 := NB231_232.out
              have hnc74 := NB232_231.out
              have hnb75 := NB231_233.out
              have hnc75 := NB233_231.out
              have hnb76 := NB231_234.out
              have hnc76 := NB234_231.out
              have hnb77 := NB231_239.out
              have hnc77 := NB239_231.out
              obtain ⟨hcz78_0, hcz78_1, hcz78_2, hcz78_3⟩ := ce4 BK231
              obtain ⟨hfz78_0, hfz78_1, hfz78_2, hfz78_3⟩ := fr4 BK231
              have hnb79 := NB239_232.out
              have hnc79 := NB232_239.out
              have hnb80 := NB239_233.out
              have hnc80 := NB233_239.out
              have hnb81 := NB239_234.out
              have hnc81 := NB234_239.out
              obtain ⟨hcz82_0, hcz82_1, hcz82_2, hcz82_3⟩ := ce4 BK239
              obtain ⟨hfz82_0, hfz82_1, hfz82_2, hfz82_3⟩ := fr4 BK239
              go_wp2
              go_meet
              case rel => exact ⟨_, (t238), (2199023255552), (by first | (with_reducible rfl) | rfl | (simp; done) | (simp [*]; done)), H', ⟨by have := HJ4.out; first | omega | exact Nat.le_refl _⟩, ⟨by (with_reducible repeat (first | apply Kd.V_alloc | apply Kd.V_drewN | apply Kd.V_drew)); exact Kd.V_mono (Kd.V_far (p := ⟨gb239, 2, none⟩) (Kd.V_far (p := ⟨gb239, 3, none⟩) (Kd.V_far (p := ⟨gb239, 2, none⟩) (Kd.V_far (p := ⟨gb239, 1, none⟩) (Kd.V_far (p := ⟨gb239, 0, none⟩) (Kd.V_mono HO_233002.out (fun k_ hk => (⟨hk, hk.2⟩ : _ ∧ k_ ≠ gb239))) (fun _ hk => hk.2) (.bool false)) (fun _ hk => hk.2) (.int .i64 0)) (fun _ hk => hk.2) (.int .i64 0)) (fun _ hk => hk.2) (.int .i64 0)) (fun _ hk => hk.2) (.int .i64 2199023255552)) (fun _ hk => ⟨hk.1.1.1, ⟨hk.1.1.2.1, ⟨hk.1.1.2.2.1, ⟨hk.1.1.2.2.2.1, ⟨hk.1.1.2.2.2.2, hk.1.2⟩⟩⟩⟩⟩)⟩, ⟨by (with_reducible repeat (first | apply Kd.V_alloc | apply Kd.V_drewN | apply Kd.V_drew)); exact Kd.V_mono (Kd.V_far (p := ⟨gb239, 2, none⟩) (Kd.V_far (p := ⟨gb239, 3, none⟩) (Kd.V_far (p := ⟨gb239, 2, none⟩) (Kd.V_far (p := ⟨gb239, 1, none⟩) (Kd.V_far (p := ⟨gb239, 0, none⟩) (Kd.V_mono HO_233003.out (fun k_ hk => (⟨hk, hk.2⟩ : _ ∧ k_ ≠ gb239))) (fun _ hk => hk.2) (.bool false)) (fun _ hk => hk.2) (.int .i64 0)) (fun _ hk => hk.2) (.int .i64 0)) (fun _ hk => hk.2) (.int .i64 0)) (fun _ hk => hk.2) (.int .i64 2199023255552)) (fun _ hk => ⟨hk.1.1.1, ⟨hk.1.1.2.1, ⟨hk.1.1.2.2.1, ⟨hk.1.1.2.2.2.1, ⟨hk.1.1.2.2.2.2, hk.1.2⟩⟩⟩⟩⟩)⟩, ⟨by (with_reducible repeat (first | refine blk_drewN ?_ _ | refine blk_drew ?_ | refine blk_alloc ?_ _)); refine blk_far ?_ NB231_239.out _; (with_reducible repeat (first | refine blk_drewN ?_ _ | refine blk_drew ?_ | refine blk_alloc ?_ _)); refine blk_far ?_ NB231_239.out _; (with_reducible repeat (first | refine blk_drewN ?_ _ | refine blk_drew ?_ | refine blk_alloc ?_ _)); refine blk_far ?_ NB231_239.out _; (with_reducible repeat (first | refine blk_drewN ?_ _ | refine blk_drew ?_ | refine blk_alloc ?_ _)); refine blk_far ?_ NB231_239.out _; (with_reducible repeat (first | refine blk_drewN ?_ _ | refine blk_drew ?_ | refine blk_alloc ?_ _)); refine blk_far ?_ NB231_239.out _; (with_reducible repeat (first | refine blk_drewN ?_ _ | refine blk_drew ?_ | refine blk_alloc ?_ _)); exact BK231.out⟩, ⟨by (with_reducible repeat (first | refine blk_drewN ?_ _ | refine blk_drew ?_ | refine blk_alloc ?_ _)); refine blk_far ?_ NB232_239.out _; (with_reducible repeat (first | refine blk_drewN ?_ _ | refine blk_drew ?_ | refine blk_alloc ?_ _)); refine blk_far ?_ NB232_239.out _; (with_reducible repeat (first | refine blk_drewN ?_ _ | refine blk_drew ?_ | refine blk_alloc ?_ _)); refine blk_far ?_ NB232_239.out _; (with_reducible repeat (first | refine blk_drewN ?_ _ | refine blk_drew ?_ | refine blk_alloc ?_ _)); refine blk_far ?_ NB232_239.out _; (with_reducible repeat (first | refine blk_drewN ?_ _ | refine blk_drew ?_ | refine blk_alloc ?_ _)); refine blk_far ?_ NB232_239.out _; (with_reducible repeat (first | refine blk_drewN ?_ _ | refine blk_drew ?_ | refine blk_alloc ?_ _)); exact BK232.out⟩, ⟨by (with_reducible repeat (first | refine blk_drewN ?_ _ | refine blk_drew ?_ | refine blk_alloc ?_ _)); refine blk_far ?_ NB233_239.out _; (with_reducible repeat (first | refine blk_drewN ?_ _ | refine blk_drew ?_ | refine blk_alloc ?_ _)); refine blk_far ?_ NB233_239.out _; (with_reducible repeat (first | refine blk_drewN ?_ _ | refine blk_drew ?_ | refine blk_alloc ?_ _)); refine blk_far ?_ NB233_239.out _; (with_reducible repeat (first | refine blk_drewN ?_ _ | refine blk_drew ?_ | refine blk_alloc ?_ _)); refine blk_far ?_ NB233_239.out _; (with_reducible repeat (first | refine blk_drewN ?_ _ | refine blk_drew ?_ | refine blk_alloc ?_ _)); refine blk_far ?_ NB233_239.out _; (with_reducible repeat (first | refine blk_drewN ?_ _ | refine blk_drew ?_ | refine blk_alloc ?_ _)); exact BK233.out⟩, ⟨by (with_reducible repeat (first | refine blk_drewN ?_ _ | refine blk_drew ?_ | refine blk_alloc ?_ _)); refine blk_far ?_ NB234_239.out _; (with_reducible repeat (first | refine blk_drewN ?_ _ | refine blk_drew ?_ | refine blk_alloc ?_ _)); refine blk_far ?_ NB234_239.out _; (with_reducible repeat (first | refine blk_drewN ?_ _ | refine blk_drew ?_ | refine blk_alloc ?_ _)); refine blk_far ?_ NB234_239.out _; (with_reducible repeat (first | refine blk_drewN ?_ _ | refine blk_drew ?_ | refine blk_alloc ?_ _)); refine blk_far ?_ NB234_239.out _; (with_reducible repeat (first | refine blk_drewN ?_ _ | refine blk_drew ?_ | refine blk_alloc ?_ _)); refine blk_far ?_ NB234_239.out _; (with_reducible repeat (first | refine blk_drewN ?_ _ | refine blk_drew ?_ | refine blk_alloc ?_ _)); exact BK234.out⟩, ⟨by (with_reducible repeat (first | refine blk_drewN ?_ _ | refine blk_drew ?_ | refine blk_alloc ?_ _)); refine blk_put (cs := #[.bool false, .int .i64 0, .int .i64 0, .int .i64 0]) ?_ 2 _ (by first | rfl | (rw [c67b0]; rfl)); (with_reducible repeat (first | refine blk_drewN ?_ _ | refine blk_drew ?_ | refine blk_alloc ?_ _)); refine blk_put (cs := #[.bool false, .int .i64 0, .int .i64 0, .int .i64 0]) ?_ 3 _ (by first | rfl | (rw [c67b0]; rfl)); (with_reducible repeat (first | refine blk_drewN ?_ _ | refine blk_drew ?_ | refine blk_alloc ?_ _)); refine blk_put (cs := #[.bool false, .int .i64 0, .int .i64 0, .int .i64 0]) ?_ 2 _ (by first | rfl | (rw [c67b0]; rfl)); (with_reducible repeat (first | refine blk_drewN ?_ _ | refine blk_drew ?_ | refine blk_alloc ?_ _)); refine blk_put (cs := #[.bool false, .int .i64 0, .int .i64 0, .int .i64 0]) ?_ 1 _ (by first | rfl | (rw [c67b0]; rfl)); (with_reducible repeat (first | refine blk_drewN ?_ _ | refine blk_drew ?_ | refine blk_alloc ?_ _)); refine blk_put (cs := #[.bool false, .int .i64 0, .int .i64 0, .int .i64 0]) ?_ 0 _ (by first | rfl | (rw [c67b0]; rfl)); (with_reducible repeat (first | refine blk_drewN ?_ _ | refine blk_drew ?_ | refine blk_alloc ?_ _)); exact BK239.out⟩, ⟨bl HB⟩⟩
            · rw [if_neg c73] at H
              have c73b0 : decide (a0_1 < a3) = false := decide_eq_false c73
              clear c73
              replace H := Option.bind_eq_some_iff.mp H
              obtain ⟨t240, A830, H⟩ := H
              have A83 := Aside0.mk A830
              clear A830
              have H' := Aside0.mk H
              clear H
              have hnb84 := NB231_232.out
              have hnc84 := NB232_231.out
              have hnb85 := NB231_233.out
              have hnc85 := NB233_231.out
              have hnb86 := NB231_234.out
              have hnc86 := NB234_231.out
              have hnb87 := NB231_239.out
              have hnc87 := NB239_231.out
              obtain ⟨hcz88_0, hcz88_1, hcz88_2, hcz88_3⟩ := ce4 BK231
              obtain ⟨hfz88_0, hfz88_1, hfz88_2, hfz88_3⟩ := fr4 BK231
              go_wp2_with (first | ((with_reducible refine gate_callee (f := 28) rfl ?_); refine goesL_ (some 74) rfl rfl Try.func28 (by kernel_rfl) rfl #[.int .i64 (wrap64 ((wrap64 (t238 + (wrap64 (a3 * a0_2)))) - (wrap64 (a0_1 * a0_2)))), .int .i64 a0_1] rfl (by (try simp only [List.map_toArray, List.map_cons, List.map_nil]); first | done | rfl | (simp only [List.length_drop, List.length_take]; rfl)) ?_; (with_reducible refine (sandglassref10_Up.calls (wrap64 ((wrap64 (t238 + (wrap64 (a3 * a0_2)))) - (wrap64 (a0_1 * a0_2)))) a0_1 t240 _ A83.out).mono ?_); rintro e w' ⟨rfl, ⟨nd, rfl⟩⟩; refine ⟨_, rfl, ?_⟩; have hnb89 := NB239_232.out; have hnc89 := NB232_239.out; have hnb90 := NB239_233.out; have hnc90 := NB233_239.out; have hnb91 := NB239_234.out; have hnc91 := NB234_239.out; obtain ⟨hcz92_0, hcz92_1, hcz92_2, hcz92_3⟩ := ce4 BK239; obtain ⟨hfz92_0, hfz92_1, hfz92_2, hfz92_3⟩ := fr4 BK239))
              go_meet
              case rel => exact ⟨_, (t238), (t240), (by first | (with_reducible rfl) | rfl | (simp; done) | (simp [*]; done)), H', ⟨by have := HJ4.out; first | omega | exact Nat.le_refl _⟩, ⟨by (with_reducible repeat (first | apply Kd.V_alloc | apply Kd.V_drewN | apply Kd.V_drew)); exact Kd.V_mono (Kd.V_far (p := ⟨gb239, 2, none⟩) (Kd.V_far (p := ⟨gb239, 3, none⟩) (Kd.V_far (p := ⟨gb239, 2, none⟩) (Kd.V_far (p := ⟨gb239, 1, none⟩) (Kd.V_far (p := ⟨gb239, 0, none⟩) (Kd.V_mono HO_233002.out (fun k_ hk => (⟨hk, hk.2⟩ : _ ∧ k_ ≠ gb239))) (fun _ hk => hk.2) (.bool false)) (fun _ hk => hk.2) (.int .i64 0)) (fun _ hk => hk.2) (.int .i64 0)) (fun _ hk => hk.2) (.int .i64 0)) (fun _ hk => hk.2) (.int .i64 t240)) (fun _ hk => ⟨hk.1.1.1, ⟨hk.1.1.2.1, ⟨hk.1.1.2.2.1, ⟨hk.1.1.2.2.2.1, ⟨hk.1.1.2.2.2.2, hk.1.2⟩⟩⟩⟩⟩)⟩, ⟨by (with_reducible repeat (first | apply Kd.V_alloc | apply Kd.V_drewN | apply Kd.V_drew)); exact Kd.V_mono (Kd.V_far (p := ⟨gb239, 2, none⟩) (Kd.V_far (p := ⟨gb239, 3, none⟩) (Kd.V_far (p := ⟨gb239, 2, none⟩) (Kd.V_far (p := ⟨gb239, 1, none⟩) (Kd.V_far (p := ⟨gb239, 0, none⟩) (Kd.V_mono HO_233003.out (fun k_ hk => (⟨hk, hk.2⟩ : _ ∧ k_ ≠ gb239))) (fun _ hk => hk.2) (.bool false)) (fun _ hk => hk.2) (.int .i64 0)) (fun _ hk => hk.2) (.int .i64 0)) (fun _ hk => hk.2) (.int .i64 0)) (fun _ hk => hk.2) (.int .i64 t240)) (fun _ hk => ⟨hk.1.1.1, ⟨hk.1.1.2.1, ⟨hk.1.1.2.2.1, ⟨hk.1.1.2.2.2.1, ⟨hk.1.1.2.2.2.2, hk.1.2⟩⟩⟩⟩⟩)⟩, ⟨by (with_reducible repeat (first | refine blk_drewN ?_ _ | refine blk_drew ?_ | refine blk_alloc ?_ _)); refine blk_far ?_ NB231_239.out _; (with_reducible repeat (first | refine blk_drewN ?_ _ | refine blk_drew ?_ | refine blk_alloc ?_ _)); refine blk_far ?_ NB231_239.out _; (with_reducible repeat (first | refine blk_drewN ?_ _ | refine blk_drew ?_ | refine blk_alloc ?_ _)); refine blk_far ?_ NB231_239.out _; (with_reducible repeat (first | refine blk_drewN ?_ _ | refine blk_drew ?_ | refine blk_alloc ?_ _)); refine blk_far ?_ NB231_239.out _; (with_reducible repeat (first | refine blk_drewN ?_ _ | refine blk_drew ?_ | refine blk_alloc ?_ _)); refine blk_far ?_ NB231_239.out _; (with_reducible repeat (first | refine blk_drewN ?_ _ | refine blk_drew ?_ | refine blk_alloc ?_ _)); exact BK231.out⟩, ⟨by (with_reducible repeat (first | refine blk_drewN ?_ _ | refine blk_drew ?_ | refine blk_alloc ?_ _)); refine blk_far ?_ NB232_239.out _; (with_reducible repeat (first | refine blk_drewN ?_ _ | refine blk_drew ?_ | refine blk_alloc ?_ _)); refine blk_far ?_ NB232_239.out _; (with_reducible repeat (first | refine blk_drewN ?_ _ | refine blk_drew ?_ | refine blk_alloc ?_ _)); refine blk_far ?_ NB232_239.out _; (with_reducible repeat (first | refine blk_drewN ?_ _ | refine blk_drew ?_ | refine blk_alloc ?_ _)); refine blk_far ?_ NB232_239.out _; (with_reducible repeat (first | refine blk_drewN ?_ _ | refine blk_drew ?_ | refine blk_alloc ?_ _)); refine blk_far ?_ NB232_239.out _; (with_reducible repeat (first | refine blk_drewN ?_ _ | refine blk_drew ?_ | refine blk_alloc ?_ _)); exact BK232.out⟩, ⟨by (with_reducible repeat (first | refine blk_drewN ?_ _ | refine blk_drew ?_ | refine blk_alloc ?_ _)); refine blk_far ?_ NB233_239.out _; (with_reducible repeat (first | refine blk_drewN ?_ _ | refine blk_drew ?_ | refine blk_alloc ?_ _)); refine blk_far ?_ NB233_239.out _; (with_reducible repeat (first | refine blk_drewN ?_ _ | refine blk_drew ?_ | refine blk_alloc ?_ _)); refine blk_far ?_ NB233_239.out _; (with_reducible repeat (first | refine blk_drewN ?_ _ | refine blk_drew ?_ | refine blk_alloc ?_ _)); refine blk_far ?_ NB233_239.out _; (with_reducible repeat (first | refine blk_drewN ?_ _ | refine blk_drew ?_ | refine blk_alloc ?_ _)); refine blk_far ?_ NB233_239.out _; (with_reducible repeat (first | refine blk_drewN ?_ _ | refine blk_drew ?_ | refine blk_alloc ?_ _)); exact BK233.out⟩, ⟨by (with_reducible repeat (first | refine blk_drewN ?_ _ | refine blk_drew ?_ | refine blk_alloc ?_ _)); refine blk_far ?_ NB234_239.out _; (with_reducible repeat (first | refine blk_drewN ?_ _ | refine blk_drew ?_ | refine blk_alloc ?_ _)); refine blk_far ?_ NB234_239.out _; (with_reducible repeat (first | refine blk_drewN ?_ _ | refine blk_drew ?_ | refine blk_alloc ?_ _)); refine blk_far ?_ NB234_239.out _; (with_reducible repeat (first | refine blk_drewN ?_ _ | refine blk_drew ?_ | refine blk_alloc ?_ _)); refine blk_far ?_ NB234_239.out _; (with_reducible repeat (first | refine blk_drewN ?_ _ | refine blk_drew ?_ | refine blk_alloc ?_ _)); refine blk_far ?_ NB234_239.out _; (with_reducible repeat (first | refine blk_drewN ?_ _ | refine blk_drew ?_ | refine blk_alloc ?_ _)); exact BK234.out⟩, ⟨by (with_reducible repeat (first | refine blk_drewN ?_ _ | refine blk_drew ?_ | refine blk_alloc ?_ _)); refine blk_put (cs := #[.bool false, .int .i64 0, .int .i64 0, .int .i64 0]) ?_ 2 _ (by first | rfl | (rw [c67b0]; rfl)); (with_reducible repeat (first | refine blk_drewN ?_ _ | refine blk_drew ?_ | refine blk_alloc ?_ _)); refine blk_put (cs := #[.bool false, .int .i64 0, .int .i64 0, .int .i64 0]) ?_ 3 _ (by first | rfl | (rw [c67b0]; rfl)); (with_reducible repeat (first | refine blk_drewN ?_ _ | refine blk_drew ?_ | refine blk_alloc ?_ _)); refine blk_put (cs := #[.bool false, .int .i64 0, .int .i64 0, .int .i64 0]) ?_ 2 _ (by first | rfl | (rw [c67b0]; rfl)); (with_reducible repeat (first | refine blk_drewN ?_ _ | refine blk_drew ?_ | refine blk_alloc ?_ _)); refine blk_put (cs := #[.bool false, .int .i64 0, .int .i64 0, .int .i64 0]) ?_ 1 _ (by first | rfl | (rw [c67b0]; rfl)); (with_reducible repeat (first | refine blk_drewN ?_ _ | refine blk_drew ?_ | refine blk_alloc ?_ _)); refine blk_put (cs := #[.bool false, .int .i64 0, .int .i64 0, .int .i64 0]) ?_ 0 _ (by first | rfl | (rw [c67b0]; rfl)); (with_reducible repeat (first | refine blk_drewN ?_ _ | refine blk_drew ?_ | refine blk_alloc ?_ _)); exact BK239.out⟩, ⟨bl HB⟩⟩
        case rest =>
          clear HC51
          try clear c1
          try clear c2
          try clear p2
          try clear c3
          try clear c4
          try clear c5
          try clear c6
          try clear p6
          try clear c7
          try clear c8
          try clear c9
          try clear c11
          try clear c13
          try clear c14
          try clear c15
          try clear c16
          try clear c17
          try clear c19
          try clear c20
          try clear c23
          try clear c24
          try clear c25
          try clear c27
          try clear c28
          try clear c31
          try clear c32
          try clear c33
          try clear c35
          try clear c36
          try clear c39
          try clear c40
          try clear c41
          try clear c42
          try clear c44
          try clear c45
          try clear c47
          try clear c52
          try clear c53
          try clear c54
          try clear c56
          try clear c57
          try clear c62
          try clear c63
          try clear c64
          try clear p64
          try clear c65
          try clear c67
          try clear c67b0
          try clear c68
          try clear c69
          try clear c70
          try clear c71
          try clear c73
          try clear c73b0
          try clear c74
          try clear c75
          try clear c76
          try clear c77
          try clear c79
          try clear c80
          try clear c81
          try clear c84
          try clear c85
          try clear c86
          try clear c87
          try clear c89
          try clear c90
          try clear c91
          try clear hcz18_0
          try clear hcz18_1
          try clear hcz18_2
          try clear hcz18_3
          try clear hcz21_0
          try clear hcz21_1
          try clear hcz21_2
          try clear hcz21_3
          try clear hcz26_0
          try clear hcz26_1
          try clear hcz26_2
          try clear hcz26_3
          try clear hcz29_0
          try clear hcz29_1
          try clear hcz29_2
          try clear hcz29_3
          try clear hcz34_0
          try clear hcz34_1
          try clear hcz34_2
          try clear hcz34_3
          try clear hcz37_0
          try clear hcz37_1
          try clear hcz37_2
          try clear hcz37_3
          try clear hcz43_0
          try clear hcz43_1
          try clear hcz43_2
          try clear hcz43_3
          try clear hcz46_0
          try clear hcz46_1
          try clear hcz46_2
          try clear hcz46_3
          try clear hcz48_0
          try clear hcz48_1
          try clear hcz48_2
          try clear hcz48_3
          try clear hcz55_0
          try clear hcz55_1
          try clear hcz55_2
          try clear hcz55_3
          try clear hcz58_0
          try clear hcz58_1
          try clear hcz58_2
          try clear hcz58_3
          try clear hcz60_0
          try clear hcz60_1
          try clear hcz60_2
          try clear hcz60_3
          try clear hcz66_0
          try clear hcz66_1
          try clear hcz66_2
          try clear hcz66_3
          try clear hcz72_0
          try clear hcz72_1
          try clear hcz72_2
          try clear hcz72_3
          try clear hcz78_0
          try clear hcz78_1
          try clear hcz78_2
          try clear hcz78_3
          try clear hcz82_0
          try clear hcz82_1
          try clear hcz82_2
          try clear hcz82_3
          try clear hcz88_0
          try clear hcz88_1
          try clear hcz88_2
          try clear hcz88_3
          try clear hcz92_0
          try clear hcz92_1
          try clear hcz92_2
          try clear hcz92_3
          try clear hfz18_0
          try clear hfz18_1
          try clear hfz18_2
          try clear hfz18_3
          try clear hfz21_0
          try clear hfz21_1
          try clear hfz21_2
          try clear hfz21_3
          try clear hfz26_0
          try clear hfz26_1
          try clear hfz26_2
          try clear hfz26_3
          try clear hfz29_0
          try clear hfz29_1
          try clear hfz29_2
          try clear hfz29_3
          try clear hfz34_0
          try clear hfz34_1
          try clear hfz34_2
          try clear hfz34_3
          try clear hfz37_0
          try clear hfz37_1
          try clear hfz37_2
          try clear hfz37_3
          try clear hfz43_0
          try clear hfz43_1
          try clear hfz43_2
          try clear hfz43_3
          try clear hfz46_0
          try clear hfz46_1
          try clear hfz46_2
          try clear hfz46_3
          try clear hfz48_0
          try clear hfz48_1
          try clear hfz48_2
          try clear hfz48_3
          try clear hfz55_0
          try clear hfz55_1
          try clear hfz55_2
          try clear hfz55_3
          try clear hfz58_0
          try clear hfz58_1
          try clear hfz58_2
          try clear hfz58_3
          try clear hfz60_0
          try clear hfz60_1
          try clear hfz60_2
          try clear hfz60_3
          try clear hfz66_0
          try clear hfz66_1
          try clear hfz66_2
          try clear hfz66_3
          try clear hfz72_0
          try clear hfz72_1
          try clear hfz72_2
          try clear hfz72_3
          try clear hfz78_0
          try clear hfz78_1
          try clear hfz78_2
          try clear hfz78_3
          try clear hfz82_0
          try clear hfz82_1
          try clear hfz82_2
          try clear hfz82_3
          try clear hfz88_0
          try clear hfz88_1
          try clear hfz88_2
          try clear hfz88_3
          try clear hfz92_0
          try clear hfz92_1
          try clear hfz92_2
          try clear hfz92_3
          try clear p2
          obtain ⟨kq, x10_50, x240002_50, rfl, HA, HJ50, HO_233002, HO_233003, BK231, BK232, BK233, BK234, BK239, HB⟩ := hcut
          cases kq with
          | zero => exact absurd HA.out (by simp [sandglassref10_Ask.j1])
          | succ kj50 =>
            have H := HA.out
            clear HA
            simp only [sandglassref10_Ask.j1] at H
            by_cases c93 : a0_2 = 0
            · rw [if_pos c93] at H
              exact absurd H (by simp)
            · rw [if_neg c93] at H
              have c93b0 : (a0_2 == 0) = false := beq_eq_false_iff_ne.mpr c93
              have c93b1 : (a0_2 != 0) = true := bne_iff_ne.mpr c93
              replace H := Option.bind_eq_some_iff.mp H
              obtain ⟨t241, A940, H⟩ := H
              have A94 := Aside0.mk A940
              clear A940
              simp only [Option.some.injEq, Prod.mk.injEq] at H
              obtain ⟨rfl, rfl, rfl, rfl, rfl, rfl, rfl, rfl⟩ := H
              have hnb95 := NB231_232.out
              have hnc95 := NB232_231.out
              have hnb96 := NB231_233.out
              have hnc96 := NB233_231.out
              have hnb97 := NB231_234.out
              have hnc97 := NB234_231.out
              have hnb98 := NB231_239.out
              have hnc98 := NB239_231.out
              obtain ⟨hcz99_0, hcz99_1, hcz99_2, hcz99_3⟩ := ce4 BK231
              obtain ⟨hfz99_0, hfz99_1, hfz99_2, hfz99_3⟩ := fr4 BK231
              have hnb100 := NB239_232.out
              have hnc100 := NB232_239.out
              have hnb101 := NB239_233.out
              have hnc101 := NB233_239.out
              have hnb102 := NB239_234.out
              have hnc102 := NB234_239.out
              obtain ⟨hcz103_0, hcz103_1, hcz103_2, hcz103_3⟩ := ce4 BK239
              obtain ⟨hfz103_0, hfz103_1, hfz103_2, hfz103_3⟩ := fr4 BK239
              try go_wp2_with (first | ((with_reducible refine gate_callee (f := 28) rfl ?_); refine goesL_ (some 86) rfl rfl Try.func28 (by kernel_rfl) rfl #[.int .i64 x10_50, .int .i64 a0_1] rfl (by (try simp only [List.map_toArray, List.map_cons, List.map_nil]); first | done | rfl | (simp only [List.length_drop, List.length_take]; rfl)) ?_; (with_reducible refine (sandglassref10_Up.calls x10_50 a0_1 t241 _ A94.out).mono ?_); rintro e w' ⟨rfl, ⟨nd, rfl⟩⟩; refine ⟨_, rfl, ?_⟩))
              (try rw [show ∀ (w_ : World) (n_ : Nat) (p_ : Addr) (v_ : Value), (w_.drewN n_).setCell p_ v_ = (w_.setCell p_ v_).drewN n_ from fun _ _ _ _ => rfl])
              have n0_ : Aside0 (Kd.V (Kd.int .i64) 3 ((wc.setCell ⟨gb239, 1, none⟩ (.int .i64 (wrap64 (Int.tdiv (wrap64 ((wrap64 (a0_1 * a0_2)) - x10_50)) a0_2)))).setCell ⟨gb239, 3, none⟩ (.int .i64 t241)) w.heap.size (fun k_ => ((P1_2_ k_ ∨ P1_3_ k_) ∨ w.heap.size ≤ k_) ∧ k_ ≠ gb231 ∧ k_ ≠ gb232 ∧ k_ ≠ gb233 ∧ k_ ≠ gb234 ∧ k_ ≠ gb239) (.slice A1_2 l1_2.length c1_2) l1_2) := ⟨by (with_reducible repeat (first | apply Kd.V_alloc | apply Kd.V_drewN | apply Kd.V_drew)); exact Kd.V_mono (Kd.V_far (p := ⟨gb239, 3, none⟩) (Kd.V_far (p := ⟨gb239, 1, none⟩) (Kd.V_mono HO_233002.out (fun k_ hk => (⟨hk, hk.2.2.2.2.2⟩ : _ ∧ k_ ≠ gb239))) (fun _ hk => hk.2) (.int .i64 (wrap64 (Int.tdiv (wrap64 ((wrap64 (a0_1 * a0_2)) - x10_50)) a0_2)))) (fun _ hk => hk.2) (.int .i64 t241)) (fun _ hk => ⟨hk.1.1, ⟨hk.1.2.1, ⟨hk.1.2.2.1, ⟨hk.1.2.2.2.1, ⟨hk.1.2.2.2.2.1, hk.1.2.2.2.2.2⟩⟩⟩⟩⟩)⟩
              have n1_ : Aside0 (Kd.V k57 57 ((wc.setCell ⟨gb239, 1, none⟩ (.int .i64 (wrap64 (Int.tdiv (wrap64 ((wrap64 (a0_1 * a0_2)) - x10_50)) a0_2)))).setCell ⟨gb239, 3, none⟩ (.int .i64 t241)) w.heap.size (fun k_ => ((P1_2_ k_ ∨ P1_3_ k_) ∨ w.heap.size ≤ k_) ∧ k_ ≠ gb231 ∧ k_ ≠ gb232 ∧ k_ ≠ gb233 ∧ k_ ≠ gb234 ∧ k_ ≠ gb239) (.slice A1_3 l1_3.length c1_3) l1_3) := ⟨by (with_reducible repeat (first | apply Kd.V_alloc | apply Kd.V_drewN | apply Kd.V_drew)); exact Kd.V_mono (Kd.V_far (p := ⟨gb239, 3, none⟩) (Kd.V_far (p := ⟨gb239, 1, none⟩) (Kd.V_mono HO_233003.out (fun k_ hk => (⟨hk, hk.2.2.2.2.2⟩ : _ ∧ k_ ≠ gb239))) (fun _ hk => hk.2) (.int .i64 (wrap64 (Int.tdiv (wrap64 ((wrap64 (a0_1 * a0_2)) - x10_50)) a0_2)))) (fun _ hk => hk.2) (.int .i64 t241)) (fun _ hk => ⟨hk.1.1, ⟨hk.1.2.1, ⟨hk.1.2.2.1, ⟨hk.1.2.2.2.1, ⟨hk.1.2.2.2.2.1, hk.1.2.2.2.2.2⟩⟩⟩⟩⟩)⟩
              have n2_ : Aside0 (((wc.setCell ⟨gb239, 1, none⟩ (.int .i64 (wrap64 (Int.tdiv (wrap64 ((wrap64 (a0_1 * a0_2)) - x10_50)) a0_2)))).setCell ⟨gb239, 3, none⟩ (.int .i64 t241)).heap[gb231]? = some (.cells #[.int .i64 a0_0, .int .i64 a0_1, .int .i64 a0_2, .int .i64 a0_3] 23 (0, 0))) := ⟨by (with_reducible repeat (first | refine blk_drewN ?_ _ | refine blk_drew ?_ | refine blk_alloc ?_ _)); refine blk_far ?_ NB231_239.out _; (with_reducible repeat (first | refine blk_drewN ?_ _ | refine blk_drew ?_ | refine blk_alloc ?_ _)); refine blk_far ?_ NB231_239.out _; (with_reducible repeat (first | refine blk_drewN ?_ _ | refine blk_drew ?_ | refine blk_alloc ?_ _)); exact BK231.out⟩
              have n3_ : Aside0 (((wc.setCell ⟨gb239, 1, none⟩ (.int .i64 (wrap64 (Int.tdiv (wrap64 ((wrap64 (a0_1 * a0_2)) - x10_50)) a0_2)))).setCell ⟨gb239, 3, none⟩ (.int .i64 t241)).heap[gb232]? = some (.cells #[.int .i64 a1_0, .int .i64 a1_1, .slice A1_2 l1_2.length c1_2, .slice A1_3 l1_3.length c1_3] 27 (0, 0))) := ⟨by (with_reducible repeat (first | refine blk_drewN ?_ _ | refine blk_drew ?_ | refine blk_alloc ?_ _)); refine blk_far ?_ NB232_239.out _; (with_reducible repeat (first | refine blk_drewN ?_ _ | refine blk_drew ?_ | refine blk_alloc ?_ _)); refine blk_far ?_ NB232_239.out _; (with_reducible repeat (first | refine blk_drewN ?_ _ | refine blk_drew ?_ | refine blk_alloc ?_ _)); exact BK232.out⟩
              have n4_ : Aside0 (((wc.setCell ⟨gb239, 1, none⟩ (.int .i64 (wrap64 (Int.tdiv (wrap64 ((wrap64 (a0_1 * a0_2)) - x10_50)) a0_2)))).setCell ⟨gb239, 3, none⟩ (.int .i64 t241)).heap[gb233]? = some (.cells #[.int .i64 0, .int .i64 0, .slice none 0 0, .slice none 0 0] 27 (0, 0))) := ⟨by (with_reducible repeat (first | refine blk_drewN ?_ _ | refine blk_drew ?_ | refine blk_alloc ?_ _)); refine blk_far ?_ NB233_239.out _; (with_reducible repeat (first | refine blk_drewN ?_ _ | refine blk_drew ?_ | refine blk_alloc ?_ _)); refine blk_far ?_ NB233_239.out _; (with_reducible repeat (first | refine blk_drewN ?_ _ | refine blk_drew ?_ | refine blk_alloc ?_ _)); exact BK233.out⟩
              have n5_ : Aside0 (((wc.setCell ⟨gb239, 1, none⟩ (.int .i64 (wrap64 (Int.tdiv (wrap64 ((wrap64 (a0_1 * a0_2)) - x10_50)) a0_2)))).setCell ⟨gb239, 3, none⟩ (.int .i64 t241)).heap[gb234]? = some (.cells #[.bool false, .int .i64 0, .int .i64 0, .int .i64 0] 32 (0, 0))) := ⟨by (with_reducible repeat (first | refine blk_drewN ?_ _ | refine blk_drew ?_ | refine blk_alloc ?_ _)); refine blk_far ?_ NB234_239.out _; (with_reducible repeat (first | refine blk_drewN ?_ _ | refine blk_drew ?_ | refine blk_alloc ?_ _)); refine blk_far ?_ NB234_239.out _; (with_reducible repeat (first | refine blk_drewN ?_ _ | refine blk_drew ?_ | refine blk_alloc ?_ _)); exact BK234.out⟩
              have n6_ : Aside0 (((wc.setCell ⟨gb239, 1, none⟩ (.int .i64 (wrap64 (Int.tdiv (wrap64 ((wrap64 (a0_1 * a0_2)) - x10_50)) a0_2)))).setCell ⟨gb239, 3, none⟩ (.int .i64 t241)).heap[gb239]? = some (.cells #[.bool (decide ((wrap64 (t238 + (wrap64 (a3 * a0_2)))) ≤ (wrap64 (a0_1 * a0_2)))), .int .i64 (wrap64 (Int.tdiv (wrap64 ((wrap64 (a0_1 * a0_2)) - x10_50)) a0_2)), .int .i64 x240002_50, .int .i64 t241] 32 (0, 0))) := ⟨by (with_reducible repeat (first | refine blk_drewN ?_ _ | refine blk_drew ?_ | refine blk_alloc ?_ _)); refine blk_put (cs := #[.bool (decide ((wrap64 (t238 + (wrap64 (a3 * a0_2)))) ≤ (wrap64 (a0_1 * a0_2)))), .int .i64 (wrap64 (Int.tdiv (wrap64 ((wrap64 (a0_1 * a0_2)) - x10_50)) a0_2)), .int .i64 x240002_50, .int .i64 0]) ?_ 3 _ rfl; (with_reducible repeat (first | refine blk_drewN ?_ _ | refine blk_drew ?_ | refine blk_alloc ?_ _)); refine blk_put (cs := #[.bool (decide ((wrap64 (t238 + (wrap64 (a3 * a0_2)))) ≤ (wrap64 (a0_1 * a0_2)))), .int .i64 0, .int .i64 x240002_50, .int .i64 0]) ?_ 1 _ rfl; (with_reducible repeat (first | refine blk_drewN ?_ _ | refine blk_drew ?_ | refine blk_alloc ?_ _)); exact BK239.out⟩
              have n7_ : Aside0 (Below w.heap.size w ((wc.setCell ⟨gb239, 1, none⟩ (.int .i64 (wrap64 (Int.tdiv (wrap64 ((wrap64 (a0_1 * a0_2)) - x10_50)) a0_2)))).setCell ⟨gb239, 3, none⟩ (.int .i64 t241))) := ⟨bl HB⟩
              (try clear HO_233002)
              (try clear HO_233003)
              (try clear BK231)
              (try clear BK232)
              (try clear BK233)
              (try clear BK234)
              (try clear BK239)
              (try clear HB)
              generalize ((wc.setCell ⟨gb239, 1, none⟩ (.int .i64 (wrap64 (Int.tdiv (wrap64 ((wrap64 (a0_1 * a0_2)) - x10_50)) a0_2)))).setCell ⟨gb239, 3, none⟩ (.int .i64 t241)) = w104 at n0_ n1_ n2_ n3_ n4_ n5_ n6_ n7_ ⊢
              have HO_233002 := n0_
              have HO_233003 := n1_
              have BK231 := n2_
              have BK232 := n3_
              have BK233 := n4_
              have BK234 := n5_
              have BK239 := n6_
              have HB := n7_
              clear n0_ n1_ n2_ n3_ n4_ n5_ n6_ n7_
              (try (rw [drewN_self w104]; generalize hq_ : World.drewN w104 _ = w104; replace HO_233002 : Aside0 (Kd.V (Kd.int .i64) 3 w104 w.heap.size (fun k_ => ((P1_2_ k_ ∨ P1_3_ k_) ∨ w.heap.size ≤ k_) ∧ k_ ≠ gb231 ∧ k_ ≠ gb232 ∧ k_ ≠ gb233 ∧ k_ ≠ gb234 ∧ k_ ≠ gb239) (.slice A1_2 l1_2.length c1_2) l1_2) := ⟨by rw [← hq_]; exact (by (with_reducible repeat (first | apply Kd.V_alloc | apply Kd.V_drewN | apply Kd.V_drew)); exact HO_233002.out)⟩; replace HO_233003 : Aside0 (Kd.V k57 57 w104 w.heap.size (fun k_ => ((P1_2_ k_ ∨ P1_3_ k_) ∨ w.heap.size ≤ k_) ∧ k_ ≠ gb231 ∧ k_ ≠ gb232 ∧ k_ ≠ gb233 ∧ k_ ≠ gb234 ∧ k_ ≠ gb239) (.slice A1_3 l1_3.length c1_3) l1_3) := ⟨by rw [← hq_]; exact (by (with_reducible repeat (first | apply Kd.V_alloc | apply Kd.V_drewN | apply Kd.V_drew)); exact HO_233003.out)⟩; replace BK231 : Aside0 (w104.heap[gb231]? = some (.cells #[.int .i64 a0_0, .int .i64 a0_1, .int .i64 a0_2, .int .i64 a0_3] 23 (0, 0))) := ⟨by rw [← hq_]; exact (bo BK231)⟩; replace BK232 : Aside0 (w104.heap[gb232]? = some (.cells #[.int .i64 a1_0, .int .i64 a1_1, .slice A1_2 l1_2.length c1_2, .slice A1_3 l1_3.length c1_3] 27 (0, 0))) := ⟨by rw [← hq_]; exact (bo BK232)⟩; replace BK233 : Aside0 (w104.heap[gb233]? = some (.cells #[.int .i64 0, .int .i64 0, .slice none 0 0, .slice none 0 0] 27 (0, 0))) := ⟨by rw [← hq_]; exact (bo BK233)⟩; replace BK234 : Aside0 (w104.heap[gb234]? = some (.cells #[.bool false, .int .i64 0, .int .i64 0, .int .i64 0] 32 (0, 0))) := ⟨by rw [← hq_]; exact (bo BK234)⟩; replace BK239 : Aside0 (w104.heap[gb239]? = some (.cells #[.bool (decide ((wrap64 (t238 + (wrap64 (a3 * a0_2)))) ≤ (wrap64 (a0_1 * a0_2)))), .int .i64 (wrap64 (Int.tdiv (wrap64 ((wrap64 (a0_1 * a0_2)) - x10_50)) a0_2)), .int .i64 x240002_50, .int .i64 t241] 32 (0, 0))) := ⟨by rw [← hq_]; exact (bo BK239)⟩; replace HB : Aside0 (Below w.heap.size w w104) := ⟨by rw [← hq_]; exact (bl HB)⟩; clear hq_))
              replace HO_233002 := Aside0.mk (Kd.V_drew HO_233002.out)
              replace HO_233003 := Aside0.mk (Kd.V_drew HO_233003.out)
              replace BK231 := Aside0.mk (blk_drew BK231.out)
              replace BK232 := Aside0.mk (blk_drew BK232.out)
              replace BK233 := Aside0.mk (blk_drew BK233.out)
              replace BK234 := Aside0.mk (blk_drew BK234.out)
              replace BK239 := Aside0.mk (blk_drew BK239.out)
              replace HB := Aside0.mk (below_drew1 HB.out)
              refine start_ (n := 6) (S := fun w' => w'.cell? ⟨gb239, 0, none⟩ = some (.bool (decide ((wrap64 (t238 + (wrap64 (a3 * a0_2)))) ≤ (wrap64 (a0_1 * a0_2))))) ∧ w'.cell? ⟨gb239, 1, none⟩ = some (.int .i64 (wrap64 (Int.tdiv (wrap64 ((wrap64 (a0_1 * a0_2)) - x10_50)) a0_2))) ∧ w'.cell? ⟨gb239, 2, none⟩ = some (.int .i64 x240002_50) ∧ w'.cell? ⟨gb239, 3, none⟩ = some (.int .i64 t241)) (ds := []) #[false, false, false, false, false, false] (by kernel_rfl) rfl rfl ⟨(blk_cell BK239.out 0).trans rfl, (blk_cell BK239.out 1).trans rfl, (blk_cell BK239.out 2).trans rfl, (blk_cell BK239.out 3).trans rfl⟩ (fun hHeld => ?_)
              generalize w104.drew = w105 at HO_233002 HO_233003 BK231 BK232 BK233 BK234 BK239 HB hHeld ⊢
              refine pureB 0 88 ?_
              refine pureB 1 89 ?_
              refine pureB 2 90 ?_
              refine takeB' 3 91 hHeld ?_
              refine one_ (i := 4) (N := none) #[true, true, true, true, true, false] rfl rfl (by kernel_rfl) (by decide) (fun K hK => ?_)
              have hs106 : w105.cell? ⟨gb233, 0, none⟩ = some (.int .i64 0) := (blk_cell BK233.out 0).trans rfl
              have hfs106 := blk_frozen BK233.out 0
              have hns106_0 := NB231_233.out
              have hns106_1 := NB232_233.out
              have hns106_3 := NB234_233.out
              have hns106_4 := NB239_233.out
              have hms106_0 := NB233_231.out
              have hms106_1 := NB233_232.out
              have hms106_3 := NB233_234.out
              have hms106_4 := NB233_239.out
              have hs107 : w105.cell? ⟨gb233, 1, none⟩ = some (.int .i64 0) := (blk_cell BK233.out 1).trans rfl
              have hfs107 := blk_frozen BK233.out 1
              have hns107_0 := NB231_233.out
              have hns107_1 := NB232_233.out
              have hns107_3 := NB234_233.out
              have hns107_4 := NB239_233.out
              have hms107_0 := NB233_231.out
              have hms107_1 := NB233_232.out
              have hms107_3 := NB233_234.out
              have hms107_4 := NB233_239.out
              have hs108 : w105.cell? ⟨gb233, 2, none⟩ = some (.slice none 0 0) := (blk_cell BK233.out 2).trans rfl
              have hfs108 := blk_frozen BK233.out 2
              have hns108_0 := NB231_233.out
              have hns108_1 := NB232_233.out
              have hns108_3 := NB234_233.out
              have hns108_4 := NB239_233.out
              have hms108_0 := NB233_231.out
              have hms108_1 := NB233_232.out
              have hms108_3 := NB233_234.out
              have hms108_4 := NB233_239.out
              have hs109 : w105.cell? ⟨gb233, 3, none⟩ = some (.slice none 0 0) := (blk_cell BK233.out 3).trans rfl
              have hfs109 := blk_frozen BK233.out 3
              have hns109_0 := NB231_233.out
              have hns109_1 := NB232_233.out
              have hns109_3 := NB234_233.out
              have hns109_4 := NB239_233.out
              have hms109_0 := NB233_231.out
              have hms109_1 := NB233_232.out
              have hms109_3 := NB233_234.out
              have hms109_4 := NB233_239.out
              refine skip_ (w1 := ?_) (by rfl) rfl ?_ ?_
              rotate_left
              · go_simp
                rfl
              refine hK.out _ _ ⟨((cell_far (p := ⟨gb233, _, none⟩) NB239_233.out _).trans (((cell_far (p := ⟨gb233, _, none⟩) NB239_233.out _).trans (((cell_far (p := ⟨gb233, _, none⟩) NB239_233.out _).trans (((cell_far (p := ⟨gb233, _, none⟩) NB239_233.out _).trans (hHeld.1)))))))), ((cell_far (p := ⟨gb233, _, none⟩) NB239_233.out _).trans (((cell_far (p := ⟨gb233, _, none⟩) NB239_233.out _).trans (((cell_far (p := ⟨gb233, _, none⟩) NB239_233.out _).trans (((cell_far (p := ⟨gb233, _, none⟩) NB239_233.out _).trans (hHeld.2.1)))))))), ((cell_far (p := ⟨gb233, _, none⟩) NB239_233.out _).trans (((cell_far (p := ⟨gb233, _, none⟩) NB239_233.out _).trans (((cell_far (p := ⟨gb233, _, none⟩) NB239_233.out _).trans (((cell_far (p := ⟨gb233, _, none⟩) NB239_233.out _).trans (hHeld.2.2.1)))))))), ((cell_far (p := ⟨gb233, _, none⟩) NB239_233.out _).trans (((cell_far (p := ⟨gb233, _, none⟩) NB239_233.out _).trans (((cell_far (p := ⟨gb233, _, none⟩) NB239_233.out _).trans (((cell_far (p := ⟨gb233, _, none⟩) NB239_233.out _).trans (hHeld.2.2.2))))))))⟩ (fun hHeld => ?_)
              clear hK K
              refine one_ (i := 5) (N := none) #[true, true, true, true, true, true] rfl rfl (by kernel_rfl) (by decide) (fun K hK => ?_)
              have hs110 : w105.cell? ⟨gb234, 0, none⟩ = some (.bool false) := (blk_cell BK234.out 0).trans rfl
              have hfs110 := blk_frozen BK234.out 0
              have hns110_0 := NB231_234.out
              have hns110_1 := NB232_234.out
              have hns110_2 := NB233_234.out
              have hns110_4 := NB239_234.out
              have hms110_0 := NB234_231.out
              have hms110_1 := NB234_232.out
              have hms110_2 := NB234_233.out
              have hms110_4 := NB234_239.out
              have hs111 : w105.cell? ⟨gb234, 1, none⟩ = some (.int .i64 0) := (blk_cell BK234.out 1).trans rfl
              have hfs111 := blk_frozen BK234.out 1
              have hns111_0 := NB231_234.out
              have hns111_1 := NB232_234.out
              have hns111_2 := NB233_234.out
              have hns111_4 := NB239_234.out
              have hms111_0 := NB234_231.out
              have hms111_1 := NB234_232.out
              have hms111_2 := NB234_233.out
              have hms111_4 := NB234_239.out
              have hs112 : w105.cell? ⟨gb234, 2, none⟩ = some (.int .i64 0) := (blk_cell BK234.out 2).trans rfl
              have hfs112 := blk_frozen BK234.out 2
              have hns112_0 := NB231_234.out
              have hns112_1 := NB232_234.out
              have hns112_2 := NB233_234.out
              have hns112_4 := NB239_234.out
              have hms112_0 := NB234_231.out
              have hms112_1 := NB234_232.out
              have hms112_2 := NB234_233.out
              have hms112_4 := NB234_239.out
              have hs113 : w105.cell? ⟨gb234, 3, none⟩ = some (.int .i64 0) := (blk_cell BK234.out 3).trans rfl
              have hfs113 := blk_frozen BK234.out 3
              have hns113_0 := NB231_234.out
              have hns113_1 := NB232_234.out
              have hns113_2 := NB233_234.out
              have hns113_4 := NB239_234.out
              have hms113_0 := NB234_231.out
              have hms113_1 := NB234_232.out
              have hms113_2 := NB234_233.out
              have hms113_4 := NB234_239.out
              refine skip_ (w1 := ?_) (by rfl) rfl ?_ ?_
              rotate_left
              · go_simp
                rfl
              refine hK.out _ _ ⟨((cell_far (p := ⟨gb234, _, none⟩) NB239_234.out _).trans (((cell_far (p := ⟨gb234, _, none⟩) NB239_234.out _).trans (((cell_far (p := ⟨gb234, _, none⟩) NB239_234.out _).trans (((cell_far (p := ⟨gb234, _, none⟩) NB239_234.out _).trans (hHeld.1)))))))), ((cell_far (p := ⟨gb234, _, none⟩) NB239_234.out _).trans (((cell_far (p := ⟨gb234, _, none⟩) NB239_234.out _).trans (((cell_far (p := ⟨gb234, _, none⟩) NB239_234.out _).trans (((cell_far (p := ⟨gb234, _, none⟩) NB239_234.out _).trans (hHeld.2.1)))))))), ((cell_far (p := ⟨gb234, _, none⟩) NB239_234.out _).trans (((cell_far (p := ⟨gb234, _, none⟩) NB239_234.out _).trans (((cell_far (p := ⟨gb234, _, none⟩) NB239_234.out _).trans (((cell_far (p := ⟨gb234, _, none⟩) NB239_234.out _).trans (hHeld.2.2.1)))))))), ((cell_far (p := ⟨gb234, _, none⟩) NB239_234.out _).trans (((cell_far (p := ⟨gb234, _, none⟩) NB239_234.out _).trans (((cell_far (p := ⟨gb234, _, none⟩) NB239_234.out _).trans (((cell_far (p := ⟨gb234, _, none⟩) NB239_234.out _).trans (hHeld.2.2.2))))))))⟩ (fun hHeld => ?_)
              clear hK K
              refine done_ (by kernel_rfl) ?_
              try go_wp2
              refine bodyPost_ret (results_cc rfl _ _ gb233 gb234 27 32 #[.int .i64 ji49, .int .i64 x10_50, .slice none 0 0, .slice none 0 0] #[.bool (decide ((wrap64 (t238 + (wrap64 (a3 * a0_2)))) ≤ (wrap64 (a0_1 * a0_2)))), .int .i64 (wrap64 (Int.tdiv (wrap64 ((wrap64 (a0_1 * a0_2)) - x10_50)) a0_2)), .int .i64 x240002_50, .int .i64 t241] (0, 0) (0, 0) _ _ rfl (by (with_reducible repeat (first | refine blk_drewN ?_ _ | refine blk_drew ?_ | refine blk_alloc ?_ _)); refine blk_far ?_ NB233_234.out _; (with_reducible repeat (first | refine blk_drewN ?_ _ | refine blk_drew ?_ | refine blk_alloc ?_ _)); refine blk_far ?_ NB233_234.out _; (with_reducible repeat (first | refine blk_drewN ?_ _ | refine blk_drew ?_ | refine blk_alloc ?_ _)); refine blk_far ?_ NB233_234.out _; (with_reducible repeat (first | refine blk_drewN ?_ _ | refine blk_drew ?_ | refine blk_alloc ?_ _)); refine blk_far ?_ NB233_234.out _; (with_reducible repeat (first | refine blk_drewN ?_ _ | refine blk_drew ?_ | refine blk_alloc ?_ _)); refine blk_put (cs := #[.int .i64 ji49, .int .i64 x10_50, .slice none 0 0, .slice none 0 0]) ?_ 3 _ rfl; (with_reducible repeat (first | refine blk_drewN ?_ _ | refine blk_drew ?_ | refine blk_alloc ?_ _)); refine blk_put (cs := #[.int .i64 ji49, .int .i64 x10_50, .slice none 0 0, .slice none 0 0]) ?_ 2 _ rfl; (with_reducible repeat (first | refine blk_drewN ?_ _ | refine blk_drew ?_ | refine blk_alloc ?_ _)); refine blk_put (cs := #[.int .i64 ji49, .int .i64 0, .slice none 0 0, .slice none 0 0]) ?_ 1 _ rfl; (with_reducible repeat (first | refine blk_drewN ?_ _ | refine blk_drew ?_ | refine blk_alloc ?_ _)); refine blk_put (cs := #[.int .i64 0, .int .i64 0, .slice none 0 0, .slice none 0 0]) ?_ 0 _ rfl; (with_reducible repeat (first | refine blk_drewN ?_ _ | refine blk_drew ?_ | refine blk_alloc ?_ _)); exact BK233.out) Try.underlying27 rfl (by kernel_rfl) rfl (by (with_reducible repeat (first | refine blk_drewN ?_ _ | refine blk_drew ?_ | refine blk_alloc ?_ _)); refine blk_put (cs := #[.bool (decide ((wrap64 (t238 + (wrap64 (a3 * a0_2)))) ≤ (wrap64 (a0_1 * a0_2)))), .int .i64 (wrap64 (Int.tdiv (wrap64 ((wrap64 (a0_1 * a0_2)) - x10_50)) a0_2)), .int .i64 x240002_50, .int .i64 0]) ?_ 3 _ rfl; (with_reducible repeat (first | refine blk_drewN ?_ _ | refine blk_drew ?_ | refine blk_alloc ?_ _)); refine blk_put (cs := #[.bool (decide ((wrap64 (t238 + (wrap64 (a3 * a0_2)))) ≤ (wrap64 (a0_1 * a0_2)))), .int .i64 (wrap64 (Int.tdiv (wrap64 ((wrap64 (a0_1 * a0_2)) - x10_50)) a0_2)), .int .i64 0, .int .i64 0]) ?_ 2 _ rfl; (with_reducible repeat (first | refine blk_drewN ?_ _ | refine blk_drew ?_ | refine blk_alloc ?_ _)); refine blk_put (cs := #[.bool (decide ((wrap64 (t238 + (wrap64 (a3 * a0_2)))) ≤ (wrap64 (a0_1 * a0_2)))), .int .i64 0, .int .i64 0, .int .i64 0]) ?_ 1 _ rfl; (with_reducible repeat (first | refine blk_drewN ?_ _ | refine blk_drew ?_ | refine blk_alloc ?_ _)); refine blk_put (cs := #[.bool false, .int .i64 0, .int .i64 0, .int .i64 0]) ?_ 0 _ rfl; (with_reducible repeat (first | refine blk_drewN ?_ _ | refine blk_drew ?_ | refine blk_alloc ?_ _)); refine blk_far ?_ NB234_233.out _; (with_reducible repeat (first | refine blk_drewN ?_ _ | refine blk_drew ?_ | refine blk_alloc ?_ _)); refine blk_far ?_ NB234_233.out _; (with_reducible repeat (first | refine blk_drewN ?_ _ | refine blk_drew ?_ | refine blk_alloc ?_ _)); refine blk_far ?_ NB234_233.out _; (with_reducible repeat (first | refine blk_drewN ?_ _ | refine blk_drew ?_ | refine blk_alloc ?_ _)); refine blk_far ?_ NB234_233.out _; (with_reducible repeat (first | refine blk_drewN ?_ _ | refine blk_drew ?_ | refine blk_alloc ?_ _)); exact BK234.out) Try.underlying32 rfl (by kernel_rfl)) rfl ?_
              exact ⟨_, _, by first | (with_reducible rfl) | (simp only [← hji49]; with_reducible rfl) | (simp only [← hji49]; done) | rfl | (simp [errW_none, errW_some] <;> rfl) | (simp only [← hji49]; first | rfl | (simp [errW_none, errW_some] <;> rfl)) | (simp [*, errW_none, errW_some] <;> rfl), Kd.V_nil _ _ _ _ _, Kd.V_nil _ _ _ _ _, bl HB⟩

end Go.Proofs.Ytpeljhmbaibjcaa.Q
