-- Laid by wip/tools/hprint.py, a program of this repo, over the kit's print; not a text of print.sh.
import Derived.Test.YtjhipnhnbnnodaaQ0
import Derived.Test.YtjhipnhnbnnodaaQ1
import Derived.Test.YtjhipnhnbnnodaaQ5
import Derived.Test.YtjhipnhnbnnodaaQ18
namespace Go.Proofs.Ytjhipnhnbnnodaa.Q
open Go.RowKit Go.Proofs.Ytjhipnhnbnnodaa.Zip Go.Proofs.YtjhipnhnbnnodaaW.PrintWords Go.Proofs.YtjhipnhnbnnodaaW.PrintLast Go.Proofs.YtjhipnhnbnnodaaW.PrintMore
attribute [local go_sem] max2_int min2_int max_two min_two max_three min_three max_four min_four   -- for this text's walks alone
set_option linter.unusedVariables false
set_option linter.unusedSimpArgs false

attribute [local go_sem high] eqA23
/-! ### sandglasslaw09_PolicyApart: function 7 -/
def sandglasslaw09_PolicyApart.j0 : Nat → ByteArray → ByteArray → Bool → Int → Int → Int → Int → Int → Int → Int → Int → Option (Bool)
  | 0, _, _, _, _, _, _, _, _, _, _, _ => none
  | k + 1, x5, x7, x24, x226000, x226001, x226002, x226003, x227000, x227001, x227002, x227003 => if x24 = true then (if x5.toList = ([] : List UInt8) then ((sandglasslaw09_live.f k).bind fun t231 => (some t231)) else (if x7.toList = ([] : List UInt8) then ((sandglasslaw09_live.f k).bind fun t232 => (some t232)) else (none))) else (if ((x5.toList == x7.toList) == (x226000 == x227000 && (x226001 == x227001 && (x226002 == x227002 && (x226003 == x227003))))) = true then (if (x5.size : Int) = 10 then (if (x7.size : Int) = 10 then ((sandglasslaw09_live.f k).bind fun t233 => (some t233)) else (none)) else (none)) else (none))
def sandglasslaw09_PolicyApart.f (k : Nat) (a0_0 : Int) (a0_1 : Int) (a0_2 : Int) (a0_3 : Int) (a1_0 : Int) (a1_1 : Int) (a1_2 : Int) (a1_3 : Int) : Option (Bool) := (policy_Encode.f k a0_0 a0_1 a0_2 a0_3).bind fun bt227 => ((policy_Encode.f k a1_0 a1_1 a1_2 a1_3).bind fun bt229 => (if bt227.2 = 0 then (sandglasslaw09_PolicyApart.j0 k bt227.1 bt229.1 (bt229.2 != 0) a0_0 a0_1 a0_2 a0_3 a1_0 a1_1 a1_2 a1_3) else (sandglasslaw09_PolicyApart.j0 k bt227.1 bt229.1 true a0_0 a0_1 a0_2 a0_3 a1_0 a1_1 a1_2 a1_3)))
theorem sandglasslaw09_PolicyApart.mono_l : ∀ k, (∀ y0 y1 y2 y3 y4 y5 y6 y7 y8 y9 y10, LeO (sandglasslaw09_PolicyApart.j0 k y0 y1 y2 y3 y4 y5 y6 y7 y8 y9 y10) (sandglasslaw09_PolicyApart.j0 (k + 1) y0 y1 y2 y3 y4 y5 y6 y7 y8 y9 y10))
  | 0 => fun _ _ _ _ _ _ _ _ _ _ _ r h => by simp [sandglasslaw09_PolicyApart.j0] at h
  | k + 1 => by
    have ih0 := sandglasslaw09_PolicyApart.mono_l k
    · intro y0 y1 y2 y3 y4 y5 y6 y7 y8 y9 y10
      unfold sandglasslaw09_PolicyApart.j0
      repeat' first
      | (with_reducible exact ih0 _ _ _ _ _ _ _ _ _ _ _)
      | (with_reducible exact policy_Encode.mono _ _ _ _ _)
      | (with_reducible exact sandglasslaw09_live.mono _)
      | (with_reducible exact LeO.refl _)
      | (with_reducible exact LeO.none _)
      | (with_reducible refine LeO.ite ?_ ?_)
      | (with_reducible refine LeO.bind ?_ (fun _ => ?_))
      | exact ih0 _ _ _ _ _ _ _ _ _ _ _
      | exact policy_Encode.mono _ _ _ _ _
      | exact sandglasslaw09_live.mono _
      | exact LeO.none _
      | refine LeO.ite ?_ ?_
      | refine LeO.bind ?_ (fun _ => ?_)
theorem sandglasslaw09_PolicyApart.mono : ∀ a0 a1 a2 a3 a4 a5 a6 a7 k, LeO (sandglasslaw09_PolicyApart.f k a0 a1 a2 a3 a4 a5 a6 a7) (sandglasslaw09_PolicyApart.f (k + 1) a0 a1 a2 a3 a4 a5 a6 a7) := by
  intro a0 a1 a2 a3 a4 a5 a6 a7 k
  have ih0 := sandglasslaw09_PolicyApart.mono_l k
  unfold sandglasslaw09_PolicyApart.f
  repeat' first
      | (with_reducible exact ih0 _ _ _ _ _ _ _ _ _ _ _)
      | (with_reducible exact policy_Encode.mono _ _ _ _ _)
      | (with_reducible exact sandglasslaw09_live.mono _)
      | (with_reducible exact LeO.refl _)
      | (with_reducible exact LeO.none _)
      | (with_reducible refine LeO.ite ?_ ?_)
      | (with_reducible refine LeO.bind ?_ (fun _ => ?_))
      | exact ih0 _ _ _ _ _ _ _ _ _ _ _
      | exact policy_Encode.mono _ _ _ _ _
      | exact sandglasslaw09_live.mono _
      | exact LeO.none _
      | refine LeO.ite ?_ ?_
      | refine LeO.bind ?_ (fun _ => ?_)
set_option maxHeartbeats 8000000 in
set_option maxRecDepth 100000 in
theorem sandglasslaw09_PolicyApart.calls (k : Nat) (a0_0 : Int) (a0_1 : Int) (a0_2 : Int) (a0_3 : Int) (a1_0 : Int) (a1_1 : Int) (a1_2 : Int) (a1_3 : Int) (r : Bool) (w : World) (h : sandglasslaw09_PolicyApart.f k a0_0 a0_1 a0_2 a0_3 a1_0 a1_1 a1_2 a1_3 = some r) :
    Calls Try.prog 7 #[.agg #[.int .i64 a0_0, .int .i64 a0_1, .int .i64 a0_2, .int .i64 a0_3], .agg #[.int .i64 a1_0, .int .i64 a1_1, .int .i64 a1_2, .int .i64 a1_3]] w fun e w' => e = .returned (.bool r) ∧ Below w.heap.size w w' := by
  have hu23 := Try.underlying23
  have HB := Aside0.mk (Below.refl w.heap.size w)
  have H : ((policy_Encode.f k a0_0 a0_1 a0_2 a0_3).bind fun bt227 => ((policy_Encode.f k a1_0 a1_1 a1_2 a1_3).bind fun bt229 => (if bt227.2 = 0 then (sandglasslaw09_PolicyApart.j0 k bt227.1 bt229.1 (bt229.2 != 0) a0_0 a0_1 a0_2 a0_3 a1_0 a1_1 a1_2 a1_3) else (sandglasslaw09_PolicyApart.j0 k bt227.1 bt229.1 true a0_0 a0_1 a0_2 a0_3 a1_0 a1_1 a1_2 a1_3)))) = some r := h
  clear h
  replace H := Option.bind_eq_some_iff.mp H
  obtain ⟨⟨t227, t228⟩, A30, H⟩ := H
  have A3 := Aside0.mk A30
  clear A30
  replace H := Option.bind_eq_some_iff.mp H
  obtain ⟨⟨t229, t230⟩, A40, H⟩ := H
  have A4 := Aside0.mk A40
  clear A40
  have HC5 := Aside0.mk H
  clear H
  go_enter Try.func7, Try.ntmps7
  go_upto_region 3 with (first | ((with_reducible refine gate_dst (N := 2) rfl ?_); (try (refine gate_guard (by rfl) ?_; dsimp only)); refine box_event ?hg (N := 2) ?hd (cs := #[.int .i64 a0_0, .int .i64 a0_1, .int .i64 a0_2, .int .i64 a0_3]) (t := 23) ?hr ?_; (case hd => rfl); (case hg => rfl); (case hr => first | (go_simp; done) | (go_simp; rfl)); intro gb225 hg w6 hbox hb; have BK225 := Aside0.mk (hbox); have GW225 := Aside0.mk ((by rw [hg]; exact (below_size (bl HB)) : w.heap.size ≤ gb225)); have GE225 := Aside0.mk ((by rw [hg]; exact (below_size (bl HB)) : w.heap.size ≤ gb225)); replace HB := Aside0.mk (below_step (bl HB) hb); clear hb hbox hg) | ((with_reducible refine gate_dst (N := 3) rfl ?_); (try (refine gate_guard (by rfl) ?_; dsimp only)); refine box_event ?hg (N := 3) ?hd (cs := #[.int .i64 a1_0, .int .i64 a1_1, .int .i64 a1_2, .int .i64 a1_3]) (t := 23) ?hr ?_; (case hd => rfl); (case hg => rfl); (case hr => first | (go_simp; done) | (go_simp; rfl)); intro gb226 hg w7 hbox hb; have BK226 := Aside0.mk (hbox); have GW226 := Aside0.mk ((by rw [hg]; exact (below_size (bl HB)) : w.heap.size ≤ gb226)); have GE226 := Aside0.mk ((by rw [hg]; exact (below_size (bl HB)) : w.heap.size ≤ gb226)); have NB225_226 := nb BK225 hg; have NB226_225 := bn BK225 hg; replace BK225 := Aside0.mk (blk_below (bo BK225) hb); replace HB := Aside0.mk (below_step (bl HB) hb); clear hb hbox hg; have hnb8 := NB225_226.out; have hnc8 := NB226_225.out; obtain ⟨hcz9_0, hcz9_1, hcz9_2, hcz9_3⟩ := ce4 BK225; obtain ⟨hfz9_0, hfz9_1, hfz9_2, hfz9_3⟩ := fr4 BK225) | ((with_reducible refine gate_callee (f := 8) rfl ?_); refine goesL_ (some 11) rfl rfl Try.func8 (by kernel_rfl) rfl #[.agg #[.int .i64 a0_0, .int .i64 a0_1, .int .i64 a0_2, .int .i64 a0_3]] rfl (by (try simp only [List.map_toArray, List.map_cons, List.map_nil]); first | done | rfl | (simp only [List.length_drop, List.length_take]; rfl)) ?_; (with_reducible refine (policy_Encode.calls k a0_0 a0_1 a0_2 a0_3 t227 t228 _ A3.out).mono ?_); rintro e w10 ⟨rfl, hb⟩; refine ⟨_, rfl, ?_⟩; replace BK225 := Aside0.mk (blk_below (bo BK225) hb); replace BK226 := Aside0.mk (blk_below (bo BK226) hb); replace HB := Aside0.mk (below_step (bl HB) hb); (try clear hb); (try clear hb2); (try clear hk); (try clear hi); obtain ⟨hcz11_0, hcz11_1, hcz11_2, hcz11_3⟩ := ce4 BK226; obtain ⟨hfz11_0, hfz11_1, hfz11_2, hfz11_3⟩ := fr4 BK226) | ((with_reducible refine gate_callee (f := 8) rfl ?_); refine goesL_ (some 16) rfl rfl Try.func8 (by kernel_rfl) rfl #[.agg #[.int .i64 a1_0, .int .i64 a1_1, .int .i64 a1_2, .int .i64 a1_3]] rfl (by (try simp only [List.map_toArray, List.map_cons, List.map_nil]); first | done | rfl | (simp only [List.length_drop, List.length_take]; rfl)) ?_; (with_reducible refine (policy_Encode.calls k a1_0 a1_1 a1_2 a1_3 t229 t230 _ A4.out).mono ?_); rintro e w12 ⟨rfl, hb⟩; refine ⟨_, rfl, ?_⟩; replace BK225 := Aside0.mk (blk_below (bo BK225) hb); replace BK226 := Aside0.mk (blk_below (bo BK226) hb); replace HB := Aside0.mk (below_step (bl HB) hb); (try clear hb); (try clear hb2); (try clear hk); (try clear hi)))
  (try simp only [Act.put, List.setIfInBounds_toArray, List.set_cons_zero, List.set_cons_succ])
  go_cut [24] (fun v24 wc => ∃ (kq : Nat) (x24_4 : Bool), v24 = .bool x24_4 ∧ Aside0 (sandglasslaw09_PolicyApart.j0 kq t227 t229 x24_4 a0_0 a0_1 a0_2 a0_3 a1_0 a1_1 a1_2 a1_3 = some r) ∧ Aside0 (kq ≤ k) ∧ Aside0 (wc.heap[gb225]? = some (.cells #[.int .i64 a0_0, .int .i64 a0_1, .int .i64 a0_2, .int .i64 a0_3] 23 (0, 0))) ∧ Aside0 (wc.heap[gb226]? = some (.cells #[.int .i64 a1_0, .int .i64 a1_1, .int .i64 a1_2, .int .i64 a1_3] 23 (0, 0))) ∧ Aside0 (Below w.heap.size w wc))
  case first =>
    have H := HC5.out
    clear HC5
    by_cases c13 : t228 = 0
    · rw [if_pos c13] at H
      have c13b0 : (t228 == 0) = true := beq_iff_eq.mpr c13
      have c13b1 : (t228 != 0) = false := bne_eq_false_iff_eq.mpr c13
      clear c13
      (first | rw [c13b0] | (simp only [i64_w, i32_w]; rw [c13b0]) | skip)
      have H' := Aside0.mk H
      clear H
      go_wp2
      go_meet
      case rel => exact ⟨_, ((t230 != 0)), (by first | (with_reducible rfl) | rfl | (simp; done) | (simp [*]; done)), H', ⟨by first | omega | exact Nat.le_refl _⟩, ⟨bo BK225⟩, ⟨bo BK226⟩, ⟨bl HB⟩⟩
    · rw [if_neg c13] at H
      have c13b0 : (t228 == 0) = false := beq_eq_false_iff_ne.mpr c13
      have c13b1 : (t228 != 0) = true := bne_iff_ne.mpr c13
      (first | rw [c13b0] | (simp only [i64_w, i32_w]; rw [c13b0]) | skip)
      have H' := Aside0.mk H
      clear H
      go_wp2
      go_meet
      case rel => exact ⟨_, (true), (by first | (with_reducible rfl) | rfl | (simp; done) | (simp [*]; done)), H', ⟨by first | omega | exact Nat.le_refl _⟩, ⟨bo BK225⟩, ⟨bo BK226⟩, ⟨bl HB⟩⟩
  case rest =>
    clear HC5
    try clear c1
    try clear p2
    try clear c7
    try clear c8
    try clear c13
    try clear c13b0
    try clear c13b1
    try clear hcz11_0
    try clear hcz11_1
    try clear hcz11_2
    try clear hcz11_3
    try clear hcz9_0
    try clear hcz9_1
    try clear hcz9_2
    try clear hcz9_3
    try clear hfz11_0
    try clear hfz11_1
    try clear hfz11_2
    try clear hfz11_3
    try clear hfz9_0
    try clear hfz9_1
    try clear hfz9_2
    try clear hfz9_3
    obtain ⟨kq, x24_4, rfl, HA, HJ4, BK225, BK226, HB⟩ := hcut
    cases kq with
    | zero => exact absurd HA.out (by simp [sandglasslaw09_PolicyApart.j0])
    | succ kj4 =>
      have H := HA.out
      clear HA
      simp only [sandglasslaw09_PolicyApart.j0] at H
      by_cases c14 : x24_4 = true
      · subst c14
        rw [if_pos rfl] at H
        by_cases c15 : t227.toList = ([] : List UInt8)
        · rw [if_pos c15] at H
          have c15b0 : (t227.toList == ([] : List UInt8)) = true := beq_iff_eq.mpr c15
          have c15b1 : (t227.toList != ([] : List UInt8)) = false := bne_eq_false_iff_eq.mpr c15
          clear c15
          replace H := Option.bind_eq_some_iff.mp H
          obtain ⟨t231, A160, H⟩ := H
          have A16 := Aside0.mk A160
          clear A160
          obtain rfl := Option.some.inj H
          go_wp2_with (first | (go_at_call 18; (with_reducible refine (sandglasslaw09_live.calls kj4  t231 _ A16.out).mono ?_); rintro e w17 ⟨rfl, hb⟩; replace BK225 := Aside0.mk (blk_below (bo BK225) hb); replace BK226 := Aside0.mk (blk_below (bo BK226) hb); replace HB := Aside0.mk (below_step (bl HB) hb); (try clear hb); (try clear hb2); (try clear hk); (try clear hi)))
          go_ret
          exact ⟨by first | (with_reducible rfl) | rfl | (simp [errW_none, errW_some] <;> rfl) | (simp [*, errW_none, errW_some] <;> rfl), bl HB⟩
        · rw [if_neg c15] at H
          have c15b0 : (t227.toList == ([] : List UInt8)) = false := beq_eq_false_iff_ne.mpr c15
          have c15b1 : (t227.toList != ([] : List UInt8)) = true := bne_iff_ne.mpr c15
          by_cases c18 : t229.toList = ([] : List UInt8)
          · rw [if_pos c18] at H
            have c18b0 : (t229.toList == ([] : List UInt8)) = true := beq_iff_eq.mpr c18
            have c18b1 : (t229.toList != ([] : List UInt8)) = false := bne_eq_false_iff_eq.mpr c18
            clear c18
            replace H := Option.bind_eq_some_iff.mp H
            obtain ⟨t232, A190, H⟩ := H
            have A19 := Aside0.mk A190
            clear A190
            obtain rfl := Option.some.inj H
            go_wp2_with (first | (go_at_call 18; (with_reducible refine (sandglasslaw09_live.calls kj4  t232 _ A19.out).mono ?_); rintro e w20 ⟨rfl, hb⟩; replace BK225 := Aside0.mk (blk_below (bo BK225) hb); replace BK226 := Aside0.mk (blk_below (bo BK226) hb); replace HB := Aside0.mk (below_step (bl HB) hb); (try clear hb); (try clear hb2); (try clear hk); (try clear hi)))
            go_ret
            exact ⟨by first | (with_reducible rfl) | rfl | (simp [errW_none, errW_some] <;> rfl) | (simp [*, errW_none, errW_some] <;> rfl), bl HB⟩
          · rw [if_neg c18] at H
            exact absurd H (by simp)
      · replace c14 := Bool.eq_false_iff.mpr c14
        subst c14
        rw [if_neg (show ¬ (false = true) by decide)] at H
        by_cases c21 : ((t227.toList == t229.toList) == (a0_0 == a1_0 && (a0_1 == a1_1 && (a0_2 == a1_2 && (a0_3 == a1_3))))) = true
        · rw [if_pos c21] at H
          have c21b0 : ((t227.toList == t229.toList) == (a0_0 == a1_0 && (a0_1 == a1_1 && (a0_2 == a1_2 && (a0_3 == a1_3))))) = true := c21
          (try (have c21b1 : decide ((t227.toList == t229.toList) = (a0_0 == a1_0 && (a0_1 == a1_1 && (a0_2 == a1_2 && (a0_3 == a1_3))))) = true := by simpa using c21))
          (try (have c21b2 : ((t227.toList == t229.toList) == (a0_0 == a1_0 && (a0_1 == a1_1 && (a0_2 == a1_2 && (a0_3 == a1_3))))) = true := by simpa using c21))
          clear c21
          by_cases c22 : (t227.size : Int) = 10
          · rw [if_pos c22] at H
            have c22b0 : ((t227.size : Int) == 10) = true := beq_iff_eq.mpr c22
            have c22b1 : ((t227.size : Int) != 10) = false := bne_eq_false_iff_eq.mpr c22
            clear c22
            by_cases c23 : (t229.size : Int) = 10
            · rw [if_pos c23] at H
              have c23b0 : ((t229.size : Int) == 10) = true := beq_iff_eq.mpr c23
              have c23b1 : ((t229.size : Int) != 10) = false := bne_eq_false_iff_eq.mpr c23
              clear c23
              replace H := Option.bind_eq_some_iff.mp H
              obtain ⟨t233, A240, H⟩ := H
              have A24 := Aside0.mk A240
              clear A240
              obtain rfl := Option.some.inj H
              have hnb25 := NB225_226.out
              have hnc25 := NB226_225.out
              obtain ⟨hcz26_0, hcz26_1, hcz26_2, hcz26_3⟩ := ce4 BK225
              obtain ⟨hfz26_0, hfz26_1, hfz26_2, hfz26_3⟩ := fr4 BK225
              obtain ⟨hcz27_0, hcz27_1, hcz27_2, hcz27_3⟩ := ce4 BK226
              obtain ⟨hfz27_0, hfz27_1, hfz27_2, hfz27_3⟩ := fr4 BK226
              go_wp2_with (first | (go_at_call 18; (with_reducible refine (sandglasslaw09_live.calls kj4  t233 _ A24.out).mono ?_); rintro e w28 ⟨rfl, hb⟩; replace BK225 := Aside0.mk (blk_below (bo BK225) hb); replace BK226 := Aside0.mk (blk_below (bo BK226) hb); replace HB := Aside0.mk (below_step (bl HB) hb); (try clear hb); (try clear hb2); (try clear hk); (try clear hi)))
              go_ret
              exact ⟨by first | (with_reducible rfl) | rfl | (simp [errW_none, errW_some] <;> rfl) | (simp [*, errW_none, errW_some] <;> rfl), bl HB⟩
            · rw [if_neg c23] at H
              exact absurd H (by simp)
          · rw [if_neg c22] at H
            exact absurd H (by simp)
        · rw [if_neg c21] at H
          exact absurd H (by simp)

end Go.Proofs.Ytjhipnhnbnnodaa.Q
