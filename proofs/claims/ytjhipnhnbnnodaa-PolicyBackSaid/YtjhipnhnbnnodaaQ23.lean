-- Laid by wip/tools/hprint.py, a program of this repo, over the kit's print; not a text of print.sh.
import Derived.Test.YtjhipnhnbnnodaaQ0
import Derived.Test.YtjhipnhnbnnodaaQ1
import Derived.Test.YtjhipnhnbnnodaaQ3
import Derived.Test.YtjhipnhnbnnodaaQ5
import Derived.Test.YtjhipnhnbnnodaaQ17
import Derived.Test.YtjhipnhnbnnodaaQ18
namespace Go.Proofs.Ytjhipnhnbnnodaa.Q
open Go.RowKit Go.Proofs.Ytjhipnhnbnnodaa.Zip Go.Proofs.YtjhipnhnbnnodaaW.PrintWords Go.Proofs.YtjhipnhnbnnodaaW.PrintLast Go.Proofs.YtjhipnhnbnnodaaW.PrintMore
attribute [local go_sem] max2_int min2_int max_two min_two max_three min_three max_four min_four   -- for this text's walks alone
set_option linter.unusedVariables false
set_option linter.unusedSimpArgs false

attribute [local go_sem high] eqA23
/-! ### sandglasslaw09_PolicyBack: function 5 -/
def sandglasslaw09_PolicyBack.j0 : Nat → ByteArray → Bool → Option (Bool)
  | 0, _, _ => none
  | k + 1, x1, x58 => if x58 = true then (none) else ((policy_Decode.f x1).bind fun bt205 => ((policy_Encode.f k bt205.1 bt205.2.1 bt205.2.2.1 bt205.2.2.2.1).bind fun bt211 => (if bt205.2.2.2.2 = 0 then (if bt211.2 = 0 then (if bt211.1.toList = x1.toList then ((sandglasslaw09_live.f k).bind fun t213 => (some t213)) else (none)) else (none)) else ((sandglasslaw09_live.f k).bind fun t214 => (some t214)))))
def sandglasslaw09_PolicyBack.f (k : Nat) (a0_0 : Int) (a0_1 : Int) (a0_2 : Int) (a0_3 : Int) (a1 : ByteArray) : Option (Bool) := if (a1.size : Int) > 100 then ((sandglasslaw09_live.f k).bind fun t195 => (some t195)) else ((policy_Encode.f k a0_0 a0_1 a0_2 a0_3).bind fun bt196 => ((policy_Decode.f bt196.1).bind fun bt198 => ((policy_Check.f a0_0 a0_1 a0_2 a0_3).bind fun t204 => (if ((bt196.2 == 0) != (t204 == 0)) = true then (sandglasslaw09_PolicyBack.j0 k a1 true) else (if bt196.2 = 0 then (if bt198.2.2.2.2 = 0 then (if (!(bt198.1 == a0_0) || (!(bt198.2.1 == a0_1) || (!(bt198.2.2.1 == a0_2) || (!(bt198.2.2.2.1 == a0_3))))) = true then (sandglasslaw09_PolicyBack.j0 k a1 true) else (if (bt196.1.size : Int) = 10 then (sandglasslaw09_PolicyBack.j0 k a1 false) else (sandglasslaw09_PolicyBack.j0 k a1 true))) else (sandglasslaw09_PolicyBack.j0 k a1 true)) else (sandglasslaw09_PolicyBack.j0 k a1 (bt196.1.toList != ([] : List UInt8))))))))
theorem sandglasslaw09_PolicyBack.mono_l : ∀ k, (∀ y0 y1, LeO (sandglasslaw09_PolicyBack.j0 k y0 y1) (sandglasslaw09_PolicyBack.j0 (k + 1) y0 y1))
  | 0 => fun _ _ r h => by simp [sandglasslaw09_PolicyBack.j0] at h
  | k + 1 => by
    have ih0 := sandglasslaw09_PolicyBack.mono_l k
    · intro y0 y1
      unfold sandglasslaw09_PolicyBack.j0
      repeat' first
      | (with_reducible exact ih0 _ _)
      | (with_reducible exact policy_Encode.mono _ _ _ _ _)
      | (with_reducible exact sandglasslaw09_live.mono _)
      | (with_reducible exact LeO.refl _)
      | (with_reducible exact LeO.none _)
      | (with_reducible refine LeO.ite ?_ ?_)
      | (with_reducible refine LeO.bind ?_ (fun _ => ?_))
      | exact ih0 _ _
      | exact policy_Encode.mono _ _ _ _ _
      | exact sandglasslaw09_live.mono _
      | exact LeO.none _
      | refine LeO.ite ?_ ?_
      | refine LeO.bind ?_ (fun _ => ?_)
theorem sandglasslaw09_PolicyBack.mono : ∀ a0 a1 a2 a3 a4 k, LeO (sandglasslaw09_PolicyBack.f k a0 a1 a2 a3 a4) (sandglasslaw09_PolicyBack.f (k + 1) a0 a1 a2 a3 a4) := by
  intro a0 a1 a2 a3 a4 k
  have ih0 := sandglasslaw09_PolicyBack.mono_l k
  unfold sandglasslaw09_PolicyBack.f
  repeat' first
      | (with_reducible exact ih0 _ _)
      | (with_reducible exact policy_Encode.mono _ _ _ _ _)
      | (with_reducible exact sandglasslaw09_live.mono _)
      | (with_reducible exact LeO.refl _)
      | (with_reducible exact LeO.none _)
      | (with_reducible refine LeO.ite ?_ ?_)
      | (with_reducible refine LeO.bind ?_ (fun _ => ?_))
      | exact ih0 _ _
      | exact policy_Encode.mono _ _ _ _ _
      | exact sandglasslaw09_live.mono _
      | exact LeO.none _
      | refine LeO.ite ?_ ?_
      | refine LeO.bind ?_ (fun _ => ?_)
set_option maxHeartbeats 8000000 in
set_option maxRecDepth 100000 in
theorem sandglasslaw09_PolicyBack.calls (k : Nat) (a0_0 : Int) (a0_1 : Int) (a0_2 : Int) (a0_3 : Int) (a1 : ByteArray) (r : Bool) (w : World) (h : sandglasslaw09_PolicyBack.f k a0_0 a0_1 a0_2 a0_3 a1 = some r) :
    Calls Try.prog 5 #[.agg #[.int .i64 a0_0, .int .i64 a0_1, .int .i64 a0_2, .int .i64 a0_3], .string a1] w fun e w' => e = .returned (.bool r) ∧ Below w.heap.size w w' := by
  have hu23 := Try.underlying23
  have HB := Aside0.mk (Below.refl w.heap.size w)
  have H : (if (a1.size : Int) > 100 then ((sandglasslaw09_live.f k).bind fun t195 => (some t195)) else ((policy_Encode.f k a0_0 a0_1 a0_2 a0_3).bind fun bt196 => ((policy_Decode.f bt196.1).bind fun bt198 => ((policy_Check.f a0_0 a0_1 a0_2 a0_3).bind fun t204 => (if ((bt196.2 == 0) != (t204 == 0)) = true then (sandglasslaw09_PolicyBack.j0 k a1 true) else (if bt196.2 = 0 then (if bt198.2.2.2.2 = 0 then (if (!(bt198.1 == a0_0) || (!(bt198.2.1 == a0_1) || (!(bt198.2.2.1 == a0_2) || (!(bt198.2.2.2.1 == a0_3))))) = true then (sandglasslaw09_PolicyBack.j0 k a1 true) else (if (bt196.1.size : Int) = 10 then (sandglasslaw09_PolicyBack.j0 k a1 false) else (sandglasslaw09_PolicyBack.j0 k a1 true))) else (sandglasslaw09_PolicyBack.j0 k a1 true)) else (sandglasslaw09_PolicyBack.j0 k a1 (bt196.1.toList != ([] : List UInt8))))))))) = some r := h
  clear h
  by_cases c3 : (a1.size : Int) > 100
  · rw [if_pos c3] at H
    have c3b0 : decide (100 < (a1.size : Int)) = true := decide_eq_true c3
    have c3b1 : decide (100 < a1.size) = true := decide_eq_true (by omega)
    clear c3
    replace H := Option.bind_eq_some_iff.mp H
    obtain ⟨t195, A40, H⟩ := H
    have A4 := Aside0.mk A40
    clear A40
    obtain rfl := Option.some.inj H
    go_enter Try.func5, Try.ntmps5
    go_wp2_with (first | ((with_reducible refine gate_dst (N := 2) rfl ?_); (try (refine gate_guard (by rfl) ?_; dsimp only)); refine box_event ?hg (N := 2) ?hd (cs := #[.int .i64 a0_0, .int .i64 a0_1, .int .i64 a0_2, .int .i64 a0_3]) (t := 23) ?hr ?_; (case hd => rfl); (case hg => rfl); (case hr => first | (go_simp; done) | (go_simp; rfl)); intro gb194 hg w5 hbox hb; have BK194 := Aside0.mk (hbox); have GW194 := Aside0.mk ((by rw [hg]; exact (below_size (bl HB)) : w.heap.size ≤ gb194)); have GE194 := Aside0.mk ((by rw [hg]; exact (below_size (bl HB)) : w.heap.size ≤ gb194)); replace HB := Aside0.mk (below_step (bl HB) hb); clear hb hbox hg) | ((with_reducible refine gate_callee (f := 18) rfl ?_); refine goesL_ (some 16) rfl rfl Try.func18 (by kernel_rfl) rfl #[] rfl (by (try simp only [List.map_toArray, List.map_cons, List.map_nil]); first | done | rfl | (simp only [List.length_drop, List.length_take]; rfl)) ?_; (with_reducible refine (sandglasslaw09_live.calls k  t195 _ A4.out).mono ?_); rintro e w6 ⟨rfl, hb⟩; refine ⟨_, rfl, ?_⟩; replace BK194 := Aside0.mk (blk_below (bo BK194) hb); replace HB := Aside0.mk (below_step (bl HB) hb); (try clear hb); (try clear hb2); (try clear hk); (try clear hi)))
    go_ret
    exact ⟨by first | (with_reducible rfl) | rfl | (simp [errW_none, errW_some] <;> rfl) | (simp [*, errW_none, errW_some] <;> rfl), bl HB⟩
  · rw [if_neg c3] at H
    have c3b0 : decide (100 < (a1.size : Int)) = false := decide_eq_false c3
    have c3b1 : decide (100 < a1.size) = false := decide_eq_false (by omega)
    clear c3
    replace H := Option.bind_eq_some_iff.mp H
    obtain ⟨⟨t196, t197⟩, A70, H⟩ := H
    have A7 := Aside0.mk A70
    clear A70
    replace H := Option.bind_eq_some_iff.mp H
    obtain ⟨⟨t198, t199, t200, t201, t202⟩, A80, H⟩ := H
    have A8 := Aside0.mk A80
    clear A80
    have HC9 := Aside0.mk H
    clear H
    go_enter Try.func5, Try.ntmps5
    go_upto_region 5 with (first | ((with_reducible refine gate_dst (N := 2) rfl ?_); (try (refine gate_guard (by rfl) ?_; dsimp only)); refine box_event ?hg (N := 2) ?hd (cs := #[.int .i64 a0_0, .int .i64 a0_1, .int .i64 a0_2, .int .i64 a0_3]) (t := 23) ?hr ?_; (case hd => rfl); (case hg => rfl); (case hr => first | (go_simp; done) | (go_simp; rfl)); intro gb194 hg w10 hbox hb; have BK194 := Aside0.mk (hbox); have GW194 := Aside0.mk ((by rw [hg]; exact (below_size (bl HB)) : w.heap.size ≤ gb194)); have GE194 := Aside0.mk ((by rw [hg]; exact (below_size (bl HB)) : w.heap.size ≤ gb194)); replace HB := Aside0.mk (below_step (bl HB) hb); clear hb hbox hg; obtain ⟨hcz11_0, hcz11_1, hcz11_2, hcz11_3⟩ := ce4 BK194; obtain ⟨hfz11_0, hfz11_1, hfz11_2, hfz11_3⟩ := fr4 BK194) | ((with_reducible refine gate_callee (f := 8) rfl ?_); refine goesL_ (some 19) rfl rfl Try.func8 (by kernel_rfl) rfl #[.agg #[.int .i64 a0_0, .int .i64 a0_1, .int .i64 a0_2, .int .i64 a0_3]] rfl (by (try simp only [List.map_toArray, List.map_cons, List.map_nil]); first | done | rfl | (simp only [List.length_drop, List.length_take]; rfl)) ?_; (with_reducible refine (policy_Encode.calls k a0_0 a0_1 a0_2 a0_3 t196 t197 _ A7.out).mono ?_); rintro e w12 ⟨rfl, hb⟩; refine ⟨_, rfl, ?_⟩; replace BK194 := Aside0.mk (blk_below (bo BK194) hb); replace HB := Aside0.mk (below_step (bl HB) hb); (try clear hb); (try clear hb2); (try clear hk); (try clear hi)) | ((with_reducible refine gate_callee (f := 19) rfl ?_); refine goesL_ (some 24) rfl rfl Try.func19 (by kernel_rfl) rfl #[.string t196] rfl (by (try simp only [List.map_toArray, List.map_cons, List.map_nil]); first | done | rfl | (simp only [List.length_drop, List.length_take]; rfl)) ?_; (with_reducible refine (policy_Decode.calls t196 t198 t199 t200 t201 t202 _ A8.out).mono ?_); rintro e w13 ⟨rfl, hb⟩; refine ⟨_, rfl, ?_⟩; replace BK194 := Aside0.mk (blk_below (bo BK194) hb); replace HB := Aside0.mk (below_step (bl HB) hb); (try clear hb); (try clear hb2); (try clear hk); (try clear hi)) | ((with_reducible refine gate_dst (N := 7) rfl ?_); (try (refine gate_guard (by rfl) ?_; dsimp only)); refine box_event ?hg (N := 7) ?hd (cs := #[.int .i64 0, .int .i64 0, .int .i64 0, .int .i64 0]) (t := 23) ?hr ?_; (case hd => rfl); (case hg => rfl); (case hr => first | (go_simp; done) | (go_simp; rfl)); intro gb203 hg w14 hbox hb; have BK203 := Aside0.mk (hbox); have GW203 := Aside0.mk ((by rw [hg]; exact (below_size (bl HB)) : w.heap.size ≤ gb203)); have GE203 := Aside0.mk ((by rw [hg]; exact (below_size (bl HB)) : w.heap.size ≤ gb203)); have NB194_203 := nb BK194 hg; have NB203_194 := bn BK194 hg; replace BK194 := Aside0.mk (blk_below (bo BK194) hb); replace HB := Aside0.mk (below_step (bl HB) hb); clear hb hbox hg; have hnb15 := NB203_194.out; have hnc15 := NB194_203.out; obtain ⟨hcz16_0, hcz16_1, hcz16_2, hcz16_3⟩ := ce4 BK203; obtain ⟨hfz16_0, hfz16_1, hfz16_2, hfz16_3⟩ := fr4 BK203) | ((with_reducible refine gate_store (t := 23) (p := 7) rfl ?_); refine store_event (t := 23) (p := 7) (v := ?vo_w17) (w1 := ((((w14.setCell ⟨gb203, 0, none⟩ (.int .i64 t198)).setCell ⟨gb203, 1, none⟩ (.int .i64 t199)).setCell ⟨gb203, 2, none⟩ (.int .i64 t200)).setCell ⟨gb203, 3, none⟩ (.int .i64 t201))) ?hg ?ho ?hn ?hr ?_; (case ho => rfl); (case hg => rfl); (case hn => rfl); (case hr => first | (go_simp; done) | (go_simp; rfl)); intro w17 hw; replace BK194 : Aside0 (w17.heap[gb194]? = some (.cells #[.int .i64 a0_0, .int .i64 a0_1, .int .i64 a0_2, .int .i64 a0_3] 23 (0, 0))) := ⟨(by rw [hw]; exact (by (with_reducible repeat (first | refine blk_drewN ?_ _ | refine blk_drew ?_ | refine blk_alloc ?_ _)); refine blk_far ?_ NB194_203.out _; (with_reducible repeat (first | refine blk_drewN ?_ _ | refine blk_drew ?_ | refine blk_alloc ?_ _)); refine blk_far ?_ NB194_203.out _; (with_reducible repeat (first | refine blk_drewN ?_ _ | refine blk_drew ?_ | refine blk_alloc ?_ _)); refine blk_far ?_ NB194_203.out _; (with_reducible repeat (first | refine blk_drewN ?_ _ | refine blk_drew ?_ | refine blk_alloc ?_ _)); refine blk_far ?_ NB194_203.out _; (with_reducible repeat (first | refine blk_drewN ?_ _ | refine blk_drew ?_ | refine blk_alloc ?_ _)); exact BK194.out))⟩; replace BK203 : Aside0 (w17.heap[gb203]? = some (.cells #[.int .i64 t198, .int .i64 t199, .int .i64 t200, .int .i64 t201] 23 (0, 0))) := ⟨(by rw [hw]; exact (by (with_reducible repeat (first | refine blk_drewN ?_ _ | refine blk_drew ?_ | refine blk_alloc ?_ _)); refine blk_put (cs := #[.int .i64 t198, .int .i64 t199, .int .i64 t200, .int .i64 0]) ?_ 3 _ rfl; (with_reducible repeat (first | refine blk_drewN ?_ _ | refine blk_drew ?_ | refine blk_alloc ?_ _)); refine blk_put (cs := #[.int .i64 t198, .int .i64 t199, .int .i64 0, .int .i64 0]) ?_ 2 _ rfl; (with_reducible repeat (first | refine blk_drewN ?_ _ | refine blk_drew ?_ | refine blk_alloc ?_ _)); refine blk_put (cs := #[.int .i64 t198, .int .i64 0, .int .i64 0, .int .i64 0]) ?_ 1 _ rfl; (with_reducible repeat (first | refine blk_drewN ?_ _ | refine blk_drew ?_ | refine blk_alloc ?_ _)); refine blk_put (cs := #[.int .i64 0, .int .i64 0, .int .i64 0, .int .i64 0]) ?_ 0 _ rfl; (with_reducible repeat (first | refine blk_drewN ?_ _ | refine blk_drew ?_ | refine blk_alloc ?_ _)); exact BK203.out))⟩; replace HB : Aside0 (Below w.heap.size w w17) := ⟨(by rw [hw]; exact (bl HB))⟩; clear hw))
    (try simp only [Act.put, List.setIfInBounds_toArray, List.set_cons_zero, List.set_cons_succ])
    go_cut [58] (fun v58 wc => ∃ (kq : Nat) (x58_8 : Bool), v58 = .bool x58_8 ∧ Aside0 (sandglasslaw09_PolicyBack.j0 kq a1 x58_8 = some r) ∧ Aside0 (kq ≤ k) ∧ Aside0 (wc.heap[gb194]? = some (.cells #[.int .i64 a0_0, .int .i64 a0_1, .int .i64 a0_2, .int .i64 a0_3] 23 (0, 0))) ∧ Aside0 (wc.heap[gb203]? = some (.cells #[.int .i64 t198, .int .i64 t199, .int .i64 t200, .int .i64 t201] 23 (0, 0))) ∧ Aside0 (Below w.heap.size w wc))
    case first =>
      have H := HC9.out
      clear HC9
      replace H := Option.bind_eq_some_iff.mp H
      obtain ⟨t204, A180, H⟩ := H
      have A18 := Aside0.mk A180
      clear A180
      by_cases c19 : ((t197 == 0) != (t204 == 0)) = true
      · rw [if_pos c19] at H
        have c19b0 : ((t197 == 0) != (t204 == 0)) = true := c19
        (try (have c19b1 : decide ((t197 == 0) = (t204 == 0)) = false := by simpa using c19))
        (try (have c19b2 : ((t197 == 0) == (t204 == 0)) = false := by simpa using c19))
        (try (have c19b3 : ¬ ((t197 == 0) = (t204 == 0)) := by simpa using c19))
        clear c19
        (first | rw [c19b0] | (simp only [i64_w, i32_w]; rw [c19b0]) | skip)
        have H' := Aside0.mk H
        clear H
        have hnb20 := NB194_203.out
        have hnc20 := NB203_194.out
        obtain ⟨hcz21_0, hcz21_1, hcz21_2, hcz21_3⟩ := ce4 BK194
        obtain ⟨hfz21_0, hfz21_1, hfz21_2, hfz21_3⟩ := fr4 BK194
        go_wp2_with (first | ((with_reducible refine gate_callee (f := 10) rfl ?_); refine goesL_ (some 30) rfl rfl Try.func10 (by kernel_rfl) rfl #[.agg #[.int .i64 a0_0, .int .i64 a0_1, .int .i64 a0_2, .int .i64 a0_3]] rfl (by (try simp only [List.map_toArray, List.map_cons, List.map_nil]); first | done | rfl | (simp only [List.length_drop, List.length_take]; rfl)) ?_; (with_reducible refine (policy_Check.calls a0_0 a0_1 a0_2 a0_3 t204 _ A18.out).mono ?_); rintro e w22 ⟨rfl, hb⟩; refine ⟨_, rfl, ?_⟩; replace BK194 := Aside0.mk (blk_below (bo BK194) hb); replace BK203 := Aside0.mk (blk_below (bo BK203) hb); replace HB := Aside0.mk (below_step (bl HB) hb); (try clear hb); (try clear hb2); (try clear hk); (try clear hi)))
        go_meet
        case rel => exact ⟨_, (true), (by first | (with_reducible rfl) | rfl | (simp; done) | (simp [*]; done)), H', ⟨by first | omega | exact Nat.le_refl _⟩, ⟨bo BK194⟩, ⟨bo BK203⟩, ⟨bl HB⟩⟩
      · rw [if_neg c19] at H
        have c19b0 : ((t197 == 0) != (t204 == 0)) = false := by simpa using c19
        (try (have c19b1 : decide ((t197 == 0) = (t204 == 0)) = true := by simpa using c19))
        (try (have c19b2 : ((t197 == 0) == (t204 == 0)) = true := by simpa using c19))
        clear c19
        (first | rw [c19b0] | (simp only [i64_w, i32_w]; rw [c19b0]) | skip)
        by_cases c23 : t197 = 0
        · rw [if_pos c23] at H
          have c23b0 : (t197 == 0) = true := beq_iff_eq.mpr c23
          have c23e : (t204 == 0) = true := by have h_ := c19b0; rw [c23b0] at h_; simpa using h_
          have c23b1 : (t197 != 0) = false := bne_eq_false_iff_eq.mpr c23
          clear c23
          by_cases c24 : t202 = 0
          · rw [if_pos c24] at H
            have c24b0 : (t202 == 0) = true := beq_iff_eq.mpr c24
            have c24b1 : (t202 != 0) = false := bne_eq_false_iff_eq.mpr c24
            clear c24
            by_cases c25 : (!(t198 == a0_0) || (!(t199 == a0_1) || (!(t200 == a0_2) || (!(t201 == a0_3))))) = true
            · rw [if_pos c25] at H
              have c25b0 : (!(t198 == a0_0) || (!(t199 == a0_1) || (!(t200 == a0_2) || (!(t201 == a0_3))))) = true := c25
              clear c25
              have H' := Aside0.mk H
              clear H
              have hnb26 := NB194_203.out
              have hnc26 := NB203_194.out
              obtain ⟨hcz27_0, hcz27_1, hcz27_2, hcz27_3⟩ := ce4 BK194
              obtain ⟨hfz27_0, hfz27_1, hfz27_2, hfz27_3⟩ := fr4 BK194
              go_wp2_with (first | ((with_reducible refine gate_callee (f := 10) rfl ?_); refine goesL_ (some 30) rfl rfl Try.func10 (by kernel_rfl) rfl #[.agg #[.int .i64 a0_0, .int .i64 a0_1, .int .i64 a0_2, .int .i64 a0_3]] rfl (by (try simp only [List.map_toArray, List.map_cons, List.map_nil]); first | done | rfl | (simp only [List.length_drop, List.length_take]; rfl)) ?_; (with_reducible refine (policy_Check.calls a0_0 a0_1 a0_2 a0_3 t204 _ A18.out).mono ?_); rintro e w28 ⟨rfl, hb⟩; refine ⟨_, rfl, ?_⟩; replace BK194 := Aside0.mk (blk_below (bo BK194) hb); replace BK203 := Aside0.mk (blk_below (bo BK203) hb); replace HB := Aside0.mk (below_step (bl HB) hb); (try clear hb); (try clear hb2); (try clear hk); (try clear hi); obtain ⟨hcz29_0, hcz29_1, hcz29_2, hcz29_3⟩ := ce4 BK203; obtain ⟨hfz29_0, hfz29_1, hfz29_2, hfz29_3⟩ := fr4 BK203; obtain ⟨hcz30_0, hcz30_1, hcz30_2, hcz30_3⟩ := ce4 BK194; obtain ⟨hfz30_0, hfz30_1, hfz30_2, hfz30_3⟩ := fr4 BK194))
              go_meet
              case rel => exact ⟨_, (true), (by first | (with_reducible rfl) | rfl | (simp; done) | (simp [*]; done)), H', ⟨by first | omega | exact Nat.le_refl _⟩, ⟨bo BK194⟩, ⟨bo BK203⟩, ⟨bl HB⟩⟩
            · rw [if_neg c25] at H
              have c25b0 : (!(t198 == a0_0) || (!(t199 == a0_1) || (!(t200 == a0_2) || (!(t201 == a0_3))))) = false := by simpa using c25
              clear c25
              by_cases c31 : (t196.size : Int) = 10
              · rw [if_pos c31] at H
                have c31b0 : ((t196.size : Int) == 10) = true := beq_iff_eq.mpr c31
                have c31b1 : ((t196.size : Int) != 10) = false := bne_eq_false_iff_eq.mpr c31
                clear c31
                have H' := Aside0.mk H
                clear H
                have hnb32 := NB194_203.out
                have hnc32 := NB203_194.out
                obtain ⟨hcz33_0, hcz33_1, hcz33_2, hcz33_3⟩ := ce4 BK194
                obtain ⟨hfz33_0, hfz33_1, hfz33_2, hfz33_3⟩ := fr4 BK194
                go_wp2_with (first | ((with_reducible refine gate_callee (f := 10) rfl ?_); refine goesL_ (some 30) rfl rfl Try.func10 (by kernel_rfl) rfl #[.agg #[.int .i64 a0_0, .int .i64 a0_1, .int .i64 a0_2, .int .i64 a0_3]] rfl (by (try simp only [List.map_toArray, List.map_cons, List.map_nil]); first | done | rfl | (simp only [List.length_drop, List.length_take]; rfl)) ?_; (with_reducible refine (policy_Check.calls a0_0 a0_1 a0_2 a0_3 t204 _ A18.out).mono ?_); rintro e w34 ⟨rfl, hb⟩; refine ⟨_, rfl, ?_⟩; replace BK194 := Aside0.mk (blk_below (bo BK194) hb); replace BK203 := Aside0.mk (blk_below (bo BK203) hb); replace HB := Aside0.mk (below_step (bl HB) hb); (try clear hb); (try clear hb2); (try clear hk); (try clear hi); obtain ⟨hcz35_0, hcz35_1, hcz35_2, hcz35_3⟩ := ce4 BK203; obtain ⟨hfz35_0, hfz35_1, hfz35_2, hfz35_3⟩ := fr4 BK203; obtain ⟨hcz36_0, hcz36_1, hcz36_2, hcz36_3⟩ := ce4 BK194; obtain ⟨hfz36_0, hfz36_1, hfz36_2, hfz36_3⟩ := fr4 BK194))
                go_meet
                case rel => exact ⟨_, (false), (by first | (with_reducible rfl) | rfl | (simp; done) | (simp [*]; done)), H', ⟨by first | omega | exact Nat.le_refl _⟩, ⟨bo BK194⟩, ⟨bo BK203⟩, ⟨bl HB⟩⟩
              · rw [if_neg c31] at H
                have c31b0 : ((t196.size : Int) == 10) = false := beq_eq_false_iff_ne.mpr c31
                have c31b1 : ((t196.size : Int) != 10) = true := bne_iff_ne.mpr c31
                have H' := Aside0.mk H
                clear H
                have hnb37 := NB194_203.out
                have hnc37 := NB203_194.out
                obtain ⟨hcz38_0, hcz38_1, hcz38_2, hcz38_3⟩ := ce4 BK194
                obtain ⟨hfz38_0, hfz38_1, hfz38_2, hfz38_3⟩ := fr4 BK194
                go_wp2_with (first | ((with_reducible refine gate_callee (f := 10) rfl ?_); refine goesL_ (some 30) rfl rfl Try.func10 (by kernel_rfl) rfl #[.agg #[.int .i64 a0_0, .int .i64 a0_1, .int .i64 a0_2, .int .i64 a0_3]] rfl (by (try simp only [List.map_toArray, List.map_cons, List.map_nil]); first | done | rfl | (simp only [List.length_drop, List.length_take]; rfl)) ?_; (with_reducible refine (policy_Check.calls a0_0 a0_1 a0_2 a0_3 t204 _ A18.out).mono ?_); rintro e w39 ⟨rfl, hb⟩; refine ⟨_, rfl, ?_⟩; replace BK194 := Aside0.mk (blk_below (bo BK194) hb); replace BK203 := Aside0.mk (blk_below (bo BK203) hb); replace HB := Aside0.mk (below_step (bl HB) hb); (try clear hb); (try clear hb2); (try clear hk); (try clear hi); obtain ⟨hcz40_0, hcz40_1, hcz40_2, hcz40_3⟩ := ce4 BK203; obtain ⟨hfz40_0, hfz40_1, hfz40_2, hfz40_3⟩ := fr4 BK203; obtain ⟨hcz41_0, hcz41_1, hcz41_2, hcz41_3⟩ := ce4 BK194; obtain ⟨hfz41_0, hfz41_1, hfz41_2, hfz41_3⟩ := fr4 BK194))
                go_meet
                case rel => exact ⟨_, (true), (by first | (with_reducible rfl) | rfl | (simp; done) | (simp [*]; done)), H', ⟨by first | omega | exact Nat.le_refl _⟩, ⟨bo BK194⟩, ⟨bo BK203⟩, ⟨bl HB⟩⟩
          · rw [if_neg c24] at H
            have c24b0 : (t202 == 0) = false := beq_eq_false_iff_ne.mpr c24
            have c24b1 : (t202 != 0) = true := bne_iff_ne.mpr c24
            have H' := Aside0.mk H
            clear H
            have hnb42 := NB194_203.out
            have hnc42 := NB203_194.out
            obtain ⟨hcz43_0, hcz43_1, hcz43_2, hcz43_3⟩ := ce4 BK194
            obtain ⟨hfz43_0, hfz43_1, hfz43_2, hfz43_3⟩ := fr4 BK194
            go_wp2_with (first | ((with_reducible refine gate_callee (f := 10) rfl ?_); refine goesL_ (some 30) rfl rfl Try.func10 (by kernel_rfl) rfl #[.agg #[.int .i64 a0_0, .int .i64 a0_1, .int .i64 a0_2, .int .i64 a0_3]] rfl (by (try simp only [List.map_toArray, List.map_cons, List.map_nil]); first | done | rfl | (simp only [List.length_drop, List.length_take]; rfl)) ?_; (with_reducible refine (policy_Check.calls a0_0 a0_1 a0_2 a0_3 t204 _ A18.out).mono ?_); rintro e w44 ⟨rfl, hb⟩; refine ⟨_, rfl, ?_⟩; replace BK194 := Aside0.mk (blk_below (bo BK194) hb); replace BK203 := Aside0.mk (blk_below (bo BK203) hb); replace HB := Aside0.mk (below_step (bl HB) hb); (try clear hb); (try clear hb2); (try clear hk); (try clear hi)))
            go_meet
            case rel => exact ⟨_, (true), (by first | (with_reducible rfl) | rfl | (simp; done) | (simp [*]; done)), H', ⟨by first | omega | exact Nat.le_refl _⟩, ⟨bo BK194⟩, ⟨bo BK203⟩, ⟨bl HB⟩⟩
        · rw [if_neg c23] at H
          have c23b0 : (t197 == 0) = false := beq_eq_false_iff_ne.mpr c23
          have c23e : (t204 == 0) = false := by have h_ := c19b0; rw [c23b0] at h_; simpa using h_
          have c23b1 : (t197 != 0) = true := bne_iff_ne.mpr c23
          have H' := Aside0.mk H
          clear H
          have hnb45 := NB194_203.out
          have hnc45 := NB203_194.out
          obtain ⟨hcz46_0, hcz46_1, hcz46_2, hcz46_3⟩ := ce4 BK194
          obtain ⟨hfz46_0, hfz46_1, hfz46_2, hfz46_3⟩ := fr4 BK194
          go_wp2_with (first | ((with_reducible refine gate_callee (f := 10) rfl ?_); refine goesL_ (some 30) rfl rfl Try.func10 (by kernel_rfl) rfl #[.agg #[.int .i64 a0_0, .int .i64 a0_1, .int .i64 a0_2, .int .i64 a0_3]] rfl (by (try simp only [List.map_toArray, List.map_cons, List.map_nil]); first | done | rfl | (simp only [List.length_drop, List.length_take]; rfl)) ?_; (with_reducible refine (policy_Check.calls a0_0 a0_1 a0_2 a0_3 t204 _ A18.out).mono ?_); rintro e w47 ⟨rfl, hb⟩; refine ⟨_, rfl, ?_⟩; replace BK194 := Aside0.mk (blk_below (bo BK194) hb); replace BK203 := Aside0.mk (blk_below (bo BK203) hb); replace HB := Aside0.mk (below_step (bl HB) hb); (try clear hb); (try clear hb2); (try clear hk); (try clear hi)))
          go_meet
          case rel => exact ⟨_, ((t196.toList != ([] : List UInt8))), (by first | (with_reducible rfl) | rfl | (simp; done) | (simp [*]; done) | (cases t196.toList <;> rfl) | (cases t196.toList <;> simp)), H', ⟨by first | omega | exact Nat.le_refl _⟩, ⟨bo BK194⟩, ⟨bo BK203⟩, ⟨bl HB⟩⟩
    case rest =>
      clear HC9
      try clear c1
      try clear c2
      try clear p2
      try clear c3
      try clear c3b0
      try clear c3b1
      try clear c4
      try clear c5
      try clear c8
      try clear c10
      try clear c15
      try clear c18
      try clear c19
      try clear c19b0
      try clear c19b1
      try clear c19b2
      try clear c20
      try clear c23
      try clear c23b0
      try clear c23b1
      try clear c24
      try clear c24b0
      try clear c24b1
      try clear c25
      try clear c25b0
      try clear c26
      try clear c31
      try clear c31b0
      try clear c31b1
      try clear c32
      try clear c37
      try clear c42
      try clear c45
      try clear hcz11_0
      try clear hcz11_1
      try clear hcz11_2
      try clear hcz11_3
      try clear hcz16_0
      try clear hcz16_1
      try clear hcz16_2
      try clear hcz16_3
      try clear hcz21_0
      try clear hcz21_1
      try clear hcz21_2
      try clear hcz21_3
      try clear hcz27_0
      try clear hcz27_1
      try clear hcz27_2
      try clear hcz27_3
      try clear hcz29_0
      try clear hcz29_1
      try clear hcz29_2
      try clear hcz29_3
      try clear hcz30_0
      try clear hcz30_1
      try clear hcz30_2
      try clear hcz30_3
      try clear hcz33_0
      try clear hcz33_1
      try clear hcz33_2
      try clear hcz33_3
      try clear hcz35_0
      try clear hcz35_1
      try clear hcz35_2
      try clear hcz35_3
      try clear hcz36_0
      try clear hcz36_1
      try clear hcz36_2
      try clear hcz36_3
      try clear hcz38_0
      try clear hcz38_1
      try clear hcz38_2
      try clear hcz38_3
      try clear hcz40_0
      try clear hcz40_1
      try clear hcz40_2
      try clear hcz40_3
      try clear hcz41_0
      try clear hcz41_1
      try clear hcz41_2
      try clear hcz41_3
      try clear hcz43_0
      try clear hcz43_1
      try clear hcz43_2
      try clear hcz43_3
      try clear hcz46_0
      try clear hcz46_1
      try clear hcz46_2
      try clear hcz46_3
      try clear hfz11_0
      try clear hfz11_1
      try clear hfz11_2
      try clear hfz11_3
      try clear hfz16_0
      try clear hfz16_1
      try clear hfz16_2
      try clear hfz16_3
      try clear hfz21_0
      try clear hfz21_1
      try clear hfz21_2
      try clear hfz21_3
      try clear hfz27_0
      try clear hfz27_1
      try clear hfz27_2
      try clear hfz27_3
      try clear hfz29_0
      try clear hfz29_1
      try clear hfz29_2
      try clear hfz29_3
      try clear hfz30_0
      try clear hfz30_1
      try clear hfz30_2
      try clear hfz30_3
      try clear hfz33_0
      try clear hfz33_1
      try clear hfz33_2
      try clear hfz33_3
      try clear hfz35_0
      try clear hfz35_1
      try clear hfz35_2
      try clear hfz35_3
      try clear hfz36_0
      try clear hfz36_1
      try clear hfz36_2
      try clear hfz36_3
      try clear hfz38_0
      try clear hfz38_1
      try clear hfz38_2
      try clear hfz38_3
      try clear hfz40_0
      try clear hfz40_1
      try clear hfz40_2
      try clear hfz40_3
      try clear hfz41_0
      try clear hfz41_1
      try clear hfz41_2
      try clear hfz41_3
      try clear hfz43_0
      try clear hfz43_1
      try clear hfz43_2
      try clear hfz43_3
      try clear hfz46_0
      try clear hfz46_1
      try clear hfz46_2
      try clear hfz46_3
      obtain ⟨kq, x58_8, rfl, HA, HJ8, BK194, BK203, HB⟩ := hcut
      cases kq with
      | zero => exact absurd HA.out (by simp [sandglasslaw09_PolicyBack.j0])
      | succ kj8 =>
        have H := HA.out
        clear HA
        simp only [sandglasslaw09_PolicyBack.j0] at H
        by_cases c48 : x58_8 = true
        · subst c48
          rw [if_pos rfl] at H
          exact absurd H (by simp)
        · replace c48 := Bool.eq_false_iff.mpr c48
          subst c48
          rw [if_neg (show ¬ (false = true) by decide)] at H
          replace H := Option.bind_eq_some_iff.mp H
          obtain ⟨⟨t205, t206, t207, t208, t209⟩, A490, H⟩ := H
          have A49 := Aside0.mk A490
          clear A490
          replace H := Option.bind_eq_some_iff.mp H
          obtain ⟨⟨t211, t212⟩, A500, H⟩ := H
          have A50 := Aside0.mk A500
          clear A500
          by_cases c51 : t209 = 0
          · rw [if_pos c51] at H
            have c51b0 : (t209 == 0) = true := beq_iff_eq.mpr c51
            have c51b1 : (t209 != 0) = false := bne_eq_false_iff_eq.mpr c51
            clear c51
            by_cases c52 : t212 = 0
            · rw [if_pos c52] at H
              have c52b0 : (t212 == 0) = true := beq_iff_eq.mpr c52
              have c52b1 : (t212 != 0) = false := bne_eq_false_iff_eq.mpr c52
              clear c52
              by_cases c53 : t211.toList = a1.toList
              · rw [if_pos c53] at H
                have c53b0 : (t211.toList == a1.toList) = true := beq_iff_eq.mpr c53
                have c53b1 : (t211.toList != a1.toList) = false := bne_eq_false_iff_eq.mpr c53
                clear c53
                replace H := Option.bind_eq_some_iff.mp H
                obtain ⟨t213, A540, H⟩ := H
                have A54 := Aside0.mk A540
                clear A540
                obtain rfl := Option.some.inj H
                go_wp2_with (first | ((with_reducible refine gate_callee (f := 19) rfl ?_); refine goesL_ (some 61) rfl rfl Try.func19 (by kernel_rfl) rfl #[.string a1] rfl (by (try simp only [List.map_toArray, List.map_cons, List.map_nil]); first | done | rfl | (simp only [List.length_drop, List.length_take]; rfl)) ?_; (with_reducible refine (policy_Decode.calls a1 t205 t206 t207 t208 t209 _ A49.out).mono ?_); rintro e w55 ⟨rfl, hb⟩; refine ⟨_, rfl, ?_⟩; replace BK194 := Aside0.mk (blk_below (bo BK194) hb); replace BK203 := Aside0.mk (blk_below (bo BK203) hb); replace HB := Aside0.mk (below_step (bl HB) hb); (try clear hb); (try clear hb2); (try clear hk); (try clear hi)) | ((with_reducible refine gate_dst (N := 9) rfl ?_); (try (refine gate_guard (by rfl) ?_; dsimp only)); refine box_event ?hg (N := 9) ?hd (cs := #[.int .i64 0, .int .i64 0, .int .i64 0, .int .i64 0]) (t := 23) ?hr ?_; (case hd => rfl); (case hg => rfl); (case hr => first | (go_simp; done) | (go_simp; rfl)); intro gb210 hg w56 hbox hb; have BK210 := Aside0.mk (hbox); have GW210 := Aside0.mk ((by rw [hg]; exact (below_size (bl HB)) : w.heap.size ≤ gb210)); have GE210 := Aside0.mk ((by rw [hg]; exact (below_size (bl HB)) : w.heap.size ≤ gb210)); have NB194_210 := nb BK194 hg; have NB210_194 := bn BK194 hg; have NB203_210 := nb BK203 hg; have NB210_203 := bn BK203 hg; replace BK194 := Aside0.mk (blk_below (bo BK194) hb); replace BK203 := Aside0.mk (blk_below (bo BK203) hb); replace HB := Aside0.mk (below_step (bl HB) hb); clear hb hbox hg; have hnb57 := NB210_194.out; have hnc57 := NB194_210.out; have hnb58 := NB210_203.out; have hnc58 := NB203_210.out; obtain ⟨hcz59_0, hcz59_1, hcz59_2, hcz59_3⟩ := ce4 BK210; obtain ⟨hfz59_0, hfz59_1, hfz59_2, hfz59_3⟩ := fr4 BK210) | ((with_reducible refine gate_store (t := 23) (p := 9) rfl ?_); refine store_event (t := 23) (p := 9) (v := ?vo_w60) (w1 := ((((w56.setCell ⟨gb210, 0, none⟩ (.int .i64 t205)).setCell ⟨gb210, 1, none⟩ (.int .i64 t206)).setCell ⟨gb210, 2, none⟩ (.int .i64 t207)).setCell ⟨gb210, 3, none⟩ (.int .i64 t208))) ?hg ?ho ?hn ?hr ?_; (case ho => rfl); (case hg => rfl); (case hn => rfl); (case hr => first | (go_simp; done) | (go_simp; rfl)); intro w60 hw; replace BK194 : Aside0 (w60.heap[gb194]? = some (.cells #[.int .i64 a0_0, .int .i64 a0_1, .int .i64 a0_2, .int .i64 a0_3] 23 (0, 0))) := ⟨(by rw [hw]; exact (by (with_reducible repeat (first | refine blk_drewN ?_ _ | refine blk_drew ?_ | refine blk_alloc ?_ _)); refine blk_far ?_ NB194_210.out _; (with_reducible repeat (first | refine blk_drewN ?_ _ | refine blk_drew ?_ | refine blk_alloc ?_ _)); refine blk_far ?_ NB194_210.out _; (with_reducible repeat (first | refine blk_drewN ?_ _ | refine blk_drew ?_ | refine blk_alloc ?_ _)); refine blk_far ?_ NB194_210.out _; (with_reducible repeat (first | refine blk_drewN ?_ _ | refine blk_drew ?_ | refine blk_alloc ?_ _)); refine blk_far ?_ NB194_210.out _; (with_reducible repeat (first | refine blk_drewN ?_ _ | refine blk_drew ?_ | refine blk_alloc ?_ _)); exact BK194.out))⟩; replace BK203 : Aside0 (w60.heap[gb203]? = some (.cells #[.int .i64 t198, .int .i64 t199, .int .i64 t200, .int .i64 t201] 23 (0, 0))) := ⟨(by rw [hw]; exact (by (with_reducible repeat (first | refine blk_drewN ?_ _ | refine blk_drew ?_ | refine blk_alloc ?_ _)); refine blk_far ?_ NB203_210.out _; (with_reducible repeat (first | refine blk_drewN ?_ _ | refine blk_drew ?_ | refine blk_alloc ?_ _)); refine blk_far ?_ NB203_210.out _; (with_reducible repeat (first | refine blk_drewN ?_ _ | refine blk_drew ?_ | refine blk_alloc ?_ _)); refine blk_far ?_ NB203_210.out _; (with_reducible repeat (first | refine blk_drewN ?_ _ | refine blk_drew ?_ | refine blk_alloc ?_ _)); refine blk_far ?_ NB203_210.out _; (with_reducible repeat (first | refine blk_drewN ?_ _ | refine blk_drew ?_ | refine blk_alloc ?_ _)); exact BK203.out))⟩; replace BK210 : Aside0 (w60.heap[gb210]? = some (.cells #[.int .i64 t205, .int .i64 t206, .int .i64 t207, .int .i64 t208] 23 (0, 0))) := ⟨(by rw [hw]; exact (by (with_reducible repeat (first | refine blk_drewN ?_ _ | refine blk_drew ?_ | refine blk_alloc ?_ _)); refine blk_put (cs := #[.int .i64 t205, .int .i64 t206, .int .i64 t207, .int .i64 0]) ?_ 3 _ rfl; (with_reducible repeat (first | refine blk_drewN ?_ _ | refine blk_drew ?_ | refine blk_alloc ?_ _)); refine blk_put (cs := #[.int .i64 t205, .int .i64 t206, .int .i64 0, .int .i64 0]) ?_ 2 _ rfl; (with_reducible repeat (first | refine blk_drewN ?_ _ | refine blk_drew ?_ | refine blk_alloc ?_ _)); refine blk_put (cs := #[.int .i64 t205, .int .i64 0, .int .i64 0, .int .i64 0]) ?_ 1 _ rfl; (with_reducible repeat (first | refine blk_drewN ?_ _ | refine blk_drew ?_ | refine blk_alloc ?_ _)); refine blk_put (cs := #[.int .i64 0, .int .i64 0, .int .i64 0, .int .i64 0]) ?_ 0 _ rfl; (with_reducible repeat (first | refine blk_drewN ?_ _ | refine blk_drew ?_ | refine blk_alloc ?_ _)); exact BK210.out))⟩; replace HB : Aside0 (Below w.heap.size w w60) := ⟨(by rw [hw]; exact (bl HB))⟩; clear hw; obtain ⟨hcz61_0, hcz61_1, hcz61_2, hcz61_3⟩ := ce4 BK210; obtain ⟨hfz61_0, hfz61_1, hfz61_2, hfz61_3⟩ := fr4 BK210) | ((with_reducible refine gate_callee (f := 8) rfl ?_); refine goesL_ (some 66) rfl rfl Try.func8 (by kernel_rfl) rfl #[.agg #[.int .i64 t205, .int .i64 t206, .int .i64 t207, .int .i64 t208]] rfl (by (try simp only [List.map_toArray, List.map_cons, List.map_nil]); first | done | rfl | (simp only [List.length_drop, List.length_take]; rfl)) ?_; (with_reducible refine (policy_Encode.calls kj8 t205 t206 t207 t208 t211 t212 _ A50.out).mono ?_); rintro e w62 ⟨rfl, hb⟩; refine ⟨_, rfl, ?_⟩; replace BK194 := Aside0.mk (blk_below (bo BK194) hb); replace BK203 := Aside0.mk (blk_below (bo BK203) hb); replace BK210 := Aside0.mk (blk_below (bo BK210) hb); replace HB := Aside0.mk (below_step (bl HB) hb); (try clear hb); (try clear hb2); (try clear hk); (try clear hi)) | (go_at_call 18; (with_reducible refine (sandglasslaw09_live.calls kj8  t213 _ A54.out).mono ?_); rintro e w63 ⟨rfl, hb⟩; replace BK194 := Aside0.mk (blk_below (bo BK194) hb); replace BK203 := Aside0.mk (blk_below (bo BK203) hb); replace BK210 := Aside0.mk (blk_below (bo BK210) hb); replace HB := Aside0.mk (below_step (bl HB) hb); (try clear hb); (try clear hb2); (try clear hk); (try clear hi)))
                go_ret
                exact ⟨by first | (with_reducible rfl) | rfl | (simp [errW_none, errW_some] <;> rfl) | (simp [*, errW_none, errW_some] <;> rfl), bl HB⟩
              · rw [if_neg c53] at H
                exact absurd H (by simp)
            · rw [if_neg c52] at H
              exact absurd H (by simp)
          · rw [if_neg c51] at H
            have c51b0 : (t209 == 0) = false := beq_eq_false_iff_ne.mpr c51
            have c51b1 : (t209 != 0) = true := bne_iff_ne.mpr c51
            replace H := Option.bind_eq_some_iff.mp H
            obtain ⟨t214, A640, H⟩ := H
            have A64 := Aside0.mk A640
            clear A640
            obtain rfl := Option.some.inj H
            go_wp2_with (first | ((with_reducible refine gate_callee (f := 19) rfl ?_); refine goesL_ (some 61) rfl rfl Try.func19 (by kernel_rfl) rfl #[.string a1] rfl (by (try simp only [List.map_toArray, List.map_cons, List.map_nil]); first | done | rfl | (simp only [List.length_drop, List.length_take]; rfl)) ?_; (with_reducible refine (policy_Decode.calls a1 t205 t206 t207 t208 t209 _ A49.out).mono ?_); rintro e w65 ⟨rfl, hb⟩; refine ⟨_, rfl, ?_⟩; replace BK194 := Aside0.mk (blk_below (bo BK194) hb); replace BK203 := Aside0.mk (blk_below (bo BK203) hb); replace HB := Aside0.mk (below_step (bl HB) hb); (try clear hb); (try clear hb2); (try clear hk); (try clear hi)) | ((with_reducible refine gate_dst (N := 9) rfl ?_); (try (refine gate_guard (by rfl) ?_; dsimp only)); refine box_event ?hg (N := 9) ?hd (cs := #[.int .i64 0, .int .i64 0, .int .i64 0, .int .i64 0]) (t := 23) ?hr ?_; (case hd => rfl); (case hg => rfl); (case hr => first | (go_simp; done) | (go_simp; rfl)); intro gb210 hg w66 hbox hb; have BK210 := Aside0.mk (hbox); have GW210 := Aside0.mk ((by rw [hg]; exact (below_size (bl HB)) : w.heap.size ≤ gb210)); have GE210 := Aside0.mk ((by rw [hg]; exact (below_size (bl HB)) : w.heap.size ≤ gb210)); have NB194_210 := nb BK194 hg; have NB210_194 := bn BK194 hg; have NB203_210 := nb BK203 hg; have NB210_203 := bn BK203 hg; replace BK194 := Aside0.mk (blk_below (bo BK194) hb); replace BK203 := Aside0.mk (blk_below (bo BK203) hb); replace HB := Aside0.mk (below_step (bl HB) hb); clear hb hbox hg; have hnb67 := NB210_194.out; have hnc67 := NB194_210.out; have hnb68 := NB210_203.out; have hnc68 := NB203_210.out; obtain ⟨hcz69_0, hcz69_1, hcz69_2, hcz69_3⟩ := ce4 BK210; obtain ⟨hfz69_0, hfz69_1, hfz69_2, hfz69_3⟩ := fr4 BK210) | ((with_reducible refine gate_store (t := 23) (p := 9) rfl ?_); refine store_event (t := 23) (p := 9) (v := ?vo_w70) (w1 := ((((w66.setCell ⟨gb210, 0, none⟩ (.int .i64 t205)).setCell ⟨gb210, 1, none⟩ (.int .i64 t206)).setCell ⟨gb210, 2, none⟩ (.int .i64 t207)).setCell ⟨gb210, 3, none⟩ (.int .i64 t208))) ?hg ?ho ?hn ?hr ?_; (case ho => rfl); (case hg => rfl); (case hn => rfl); (case hr => first | (go_simp; done) | (go_simp; rfl)); intro w70 hw; replace BK194 : Aside0 (w70.heap[gb194]? = some (.cells #[.int .i64 a0_0, .int .i64 a0_1, .int .i64 a0_2, .int .i64 a0_3] 23 (0, 0))) := ⟨(by rw [hw]; exact (by (with_reducible repeat (first | refine blk_drewN ?_ _ | refine blk_drew ?_ | refine blk_alloc ?_ _)); refine blk_far ?_ NB194_210.out _; (with_reducible repeat (first | refine blk_drewN ?_ _ | refine blk_drew ?_ | refine blk_alloc ?_ _)); refine blk_far ?_ NB194_210.out _; (with_reducible repeat (first | refine blk_drewN ?_ _ | refine blk_drew ?_ | refine blk_alloc ?_ _)); refine blk_far ?_ NB194_210.out _; (with_reducible repeat (first | refine blk_drewN ?_ _ | refine blk_drew ?_ | refine blk_alloc ?_ _)); refine blk_far ?_ NB194_210.out _; (with_reducible repeat (first | refine blk_drewN ?_ _ | refine blk_drew ?_ | refine blk_alloc ?_ _)); exact BK194.out))⟩; replace BK203 : Aside0 (w70.heap[gb203]? = some (.cells #[.int .i64 t198, .int .i64 t199, .int .i64 t200, .int .i64 t201] 23 (0, 0))) := ⟨(by rw [hw]; exact (by (with_reducible repeat (first | refine blk_drewN ?_ _ | refine blk_drew ?_ | refine blk_alloc ?_ _)); refine blk_far ?_ NB203_210.out _; (with_reducible repeat (first | refine blk_drewN ?_ _ | refine blk_drew ?_ | refine blk_alloc ?_ _)); refine blk_far ?_ NB203_210.out _; (with_reducible repeat (first | refine blk_drewN ?_ _ | refine blk_drew ?_ | refine blk_alloc ?_ _)); refine blk_far ?_ NB203_210.out _; (with_reducible repeat (first | refine blk_drewN ?_ _ | refine blk_drew ?_ | refine blk_alloc ?_ _)); refine blk_far ?_ NB203_210.out _; (with_reducible repeat (first | refine blk_drewN ?_ _ | refine blk_drew ?_ | refine blk_alloc ?_ _)); exact BK203.out))⟩; replace BK210 : Aside0 (w70.heap[gb210]? = some (.cells #[.int .i64 t205, .int .i64 t206, .int .i64 t207, .int .i64 t208] 23 (0, 0))) := ⟨(by rw [hw]; exact (by (with_reducible repeat (first | refine blk_drewN ?_ _ | refine blk_drew ?_ | refine blk_alloc ?_ _)); refine blk_put (cs := #[.int .i64 t205, .int .i64 t206, .int .i64 t207, .int .i64 0]) ?_ 3 _ rfl; (with_reducible repeat (first | refine blk_drewN ?_ _ | refine blk_drew ?_ | refine blk_alloc ?_ _)); refine blk_put (cs := #[.int .i64 t205, .int .i64 t206, .int .i64 0, .int .i64 0]) ?_ 2 _ rfl; (with_reducible repeat (first | refine blk_drewN ?_ _ | refine blk_drew ?_ | refine blk_alloc ?_ _)); refine blk_put (cs := #[.int .i64 t205, .int .i64 0, .int .i64 0, .int .i64 0]) ?_ 1 _ rfl; (with_reducible repeat (first | refine blk_drewN ?_ _ | refine blk_drew ?_ | refine blk_alloc ?_ _)); refine blk_put (cs := #[.int .i64 0, .int .i64 0, .int .i64 0, .int .i64 0]) ?_ 0 _ rfl; (with_reducible repeat (first | refine blk_drewN ?_ _ | refine blk_drew ?_ | refine blk_alloc ?_ _)); exact BK210.out))⟩; replace HB : Aside0 (Below w.heap.size w w70) := ⟨(by rw [hw]; exact (bl HB))⟩; clear hw; obtain ⟨hcz71_0, hcz71_1, hcz71_2, hcz71_3⟩ := ce4 BK210; obtain ⟨hfz71_0, hfz71_1, hfz71_2, hfz71_3⟩ := fr4 BK210) | ((with_reducible refine gate_callee (f := 8) rfl ?_); refine goesL_ (some 66) rfl rfl Try.func8 (by kernel_rfl) rfl #[.agg #[.int .i64 t205, .int .i64 t206, .int .i64 t207, .int .i64 t208]] rfl (by (try simp only [List.map_toArray, List.map_cons, List.map_nil]); first | done | rfl | (simp only [List.length_drop, List.length_take]; rfl)) ?_; (with_reducible refine (policy_Encode.calls kj8 t205 t206 t207 t208 t211 t212 _ A50.out).mono ?_); rintro e w72 ⟨rfl, hb⟩; refine ⟨_, rfl, ?_⟩; replace BK194 := Aside0.mk (blk_below (bo BK194) hb); replace BK203 := Aside0.mk (blk_below (bo BK203) hb); replace BK210 := Aside0.mk (blk_below (bo BK210) hb); replace HB := Aside0.mk (below_step (bl HB) hb); (try clear hb); (try clear hb2); (try clear hk); (try clear hi)) | (go_at_call 18; (with_reducible refine (sandglasslaw09_live.calls kj8  t214 _ A64.out).mono ?_); rintro e w73 ⟨rfl, hb⟩; replace BK194 := Aside0.mk (blk_below (bo BK194) hb); replace BK203 := Aside0.mk (blk_below (bo BK203) hb); replace BK210 := Aside0.mk (blk_below (bo BK210) hb); replace HB := Aside0.mk (below_step (bl HB) hb); (try clear hb); (try clear hb2); (try clear hk); (try clear hi)))
            go_ret
            exact ⟨by first | (with_reducible rfl) | rfl | (simp [errW_none, errW_some] <;> rfl) | (simp [*, errW_none, errW_some] <;> rfl), bl HB⟩

end Go.Proofs.Ytjhipnhnbnnodaa.Q
