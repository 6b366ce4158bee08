-- Laid by wip/tools/hprint.py, a program of this repo, over the kit's print; not a text of print.sh.
import Derived.Test.YtjhipnhnbnnodaaQ0
import Derived.Test.YtjhipnhnbnnodaaQ1
import Derived.Test.YtjhipnhnbnnodaaQ3
import Derived.Test.YtjhipnhnbnnodaaQ5
import Derived.Test.YtjhipnhnbnnodaaQ9
import Derived.Test.YtjhipnhnbnnodaaQ11
import Derived.Test.YtjhipnhnbnnodaaQ13
import Derived.Test.YtjhipnhnbnnodaaQ17
namespace Go.Proofs.Ytjhipnhnbnnodaa.Q
open Go.RowKit Go.Proofs.Ytjhipnhnbnnodaa.Zip Go.Proofs.YtjhipnhnbnnodaaW.PrintWords Go.Proofs.YtjhipnhnbnnodaaW.PrintLast Go.Proofs.YtjhipnhnbnnodaaW.PrintMore
attribute [local go_sem] max2_int min2_int max_two min_two max_three min_three max_four min_four   -- for this text's walks alone
set_option linter.unusedVariables false
set_option linter.unusedSimpArgs false

attribute [local go_sem high] eqA23
/-! ### sandglasslaw09_live: function 18 -/
def sandglasslaw09_live.f (k : Nat)  : Option (Bool) := (policy_Encode.f k 3 10 60 6).bind fun bt130 => ((policy_Decode.f bt130.1).bind fun bt132 => (if bt130.1.size + 1 ≤ 9223372036854775807 then ((policy_Decode.f (bt130.1 ++ (⟨#[120]⟩ : ByteArray))).bind fun bt138 => ((policy_Decode.f (⟨#[120]⟩ : ByteArray)).bind fun bt144 => ((policy_Encode.f k 0 0 0 0).bind fun bt150 => ((policy_Check.f 3 10 60 6).bind fun t152 => (if t152 = 0 then ((policy_Check.f 3 10 60 7).bind fun t153 => (if t153 = 1 then ((policy_Check.f 4 17 60 0).bind fun t154 => (if t154 = 1 then (if bt130.2 = 0 then (if bt130.1.toList = ([3, 0, 0, 0, 10, 0, 0, 0, 60, 6] : List UInt8) then (if bt132.2.2.2.2 = 0 then (if (bt132.1 == 3 && (bt132.2.1 == 10 && (bt132.2.2.1 == 60 && (bt132.2.2.2.1 == 6)))) = true then (if bt138.2.2.2.2 = 3 then (if bt144.2.2.2.2 = 2 then (if bt150.2 = 1 then ((policy_Span.f 3 10 60 6).bind fun t155 => (if t155 = 60 then ((policy_Slot.f 3 10 60 6).bind fun t156 => (if t156 = 10 then ((policy_Weighs.f 1).bind fun t157 => (if t157 = true then ((policy_Weighs.f 0).bind fun t158 => (some (!t158))) else (none))) else (none))) else (none))) else (none)) else (none)) else (none)) else (none)) else (none)) else (none)) else (none)) else (none))) else (none))) else (none)))))) else (none)))
theorem sandglasslaw09_live.mono : ∀ k, LeO (sandglasslaw09_live.f k ) (sandglasslaw09_live.f (k + 1) ) := by
  intro  k
  unfold sandglasslaw09_live.f
  repeat' first
      | (with_reducible exact policy_Encode.mono _ _ _ _ _)
      | (with_reducible exact LeO.refl _)
      | (with_reducible exact LeO.none _)
      | (with_reducible refine LeO.ite ?_ ?_)
      | (with_reducible refine LeO.bind ?_ (fun _ => ?_))
      | exact policy_Encode.mono _ _ _ _ _
      | exact LeO.none _
      | refine LeO.ite ?_ ?_
      | refine LeO.bind ?_ (fun _ => ?_)
set_option maxHeartbeats 8000000 in
set_option maxRecDepth 100000 in
theorem sandglasslaw09_live.calls (k : Nat)  (r : Bool) (w : World) (h : sandglasslaw09_live.f k  = some r) :
    Calls Try.prog 18 #[] w fun e w' => e = .returned (.bool r) ∧ Below w.heap.size w w' := by
  have hu23 := Try.underlying23
  have HB := Aside0.mk (Below.refl w.heap.size w)
  have H : ((policy_Encode.f k 3 10 60 6).bind fun bt130 => ((policy_Decode.f bt130.1).bind fun bt132 => (if bt130.1.size + 1 ≤ 9223372036854775807 then ((policy_Decode.f (bt130.1 ++ (⟨#[120]⟩ : ByteArray))).bind fun bt138 => ((policy_Decode.f (⟨#[120]⟩ : ByteArray)).bind fun bt144 => ((policy_Encode.f k 0 0 0 0).bind fun bt150 => ((policy_Check.f 3 10 60 6).bind fun t152 => (if t152 = 0 then ((policy_Check.f 3 10 60 7).bind fun t153 => (if t153 = 1 then ((policy_Check.f 4 17 60 0).bind fun t154 => (if t154 = 1 then (if bt130.2 = 0 then (if bt130.1.toList = ([3, 0, 0, 0, 10, 0, 0, 0, 60, 6] : List UInt8) then (if bt132.2.2.2.2 = 0 then (if (bt132.1 == 3 && (bt132.2.1 == 10 && (bt132.2.2.1 == 60 && (bt132.2.2.2.1 == 6)))) = true then (if bt138.2.2.2.2 = 3 then (if bt144.2.2.2.2 = 2 then (if bt150.2 = 1 then ((policy_Span.f 3 10 60 6).bind fun t155 => (if t155 = 60 then ((policy_Slot.f 3 10 60 6).bind fun t156 => (if t156 = 10 then ((policy_Weighs.f 1).bind fun t157 => (if t157 = true then ((policy_Weighs.f 0).bind fun t158 => (some (!t158))) else (none))) else (none))) else (none))) else (none)) else (none)) else (none)) else (none)) else (none)) else (none)) else (none)) else (none))) else (none))) else (none)))))) else (none)))) = some r := h
  clear h
  replace H := Option.bind_eq_some_iff.mp H
  obtain ⟨⟨t130, t131⟩, A10, H⟩ := H
  have A1 := Aside0.mk A10
  clear A10
  replace H := Option.bind_eq_some_iff.mp H
  obtain ⟨⟨t132, t133, t134, t135, t136⟩, A20, H⟩ := H
  have A2 := Aside0.mk A20
  clear A20
  by_cases c3 : t130.size + 1 ≤ 9223372036854775807
  · rw [if_pos c3] at H
    have c3b0 := eq_true c3
    have c3b1 : decide (t130.size + 1 ≤ 9223372036854775807) = true := decide_eq_true c3
    try have c3b2 : (9223372036854775807 < t130.size + 1) = False := eq_false (Nat.not_lt.2 c3)
    replace H := Option.bind_eq_some_iff.mp H
    obtain ⟨⟨t138, t139, t140, t141, t142⟩, A40, H⟩ := H
    have A4 := Aside0.mk A40
    clear A40
    replace H := Option.bind_eq_some_iff.mp H
    obtain ⟨⟨t144, t145, t146, t147, t148⟩, A50, H⟩ := H
    have A5 := Aside0.mk A50
    clear A50
    replace H := Option.bind_eq_some_iff.mp H
    obtain ⟨⟨t150, t151⟩, A60, H⟩ := H
    have A6 := Aside0.mk A60
    clear A60
    replace H := Option.bind_eq_some_iff.mp H
    obtain ⟨t152, A70, H⟩ := H
    have A7 := Aside0.mk A70
    clear A70
    by_cases c8 : t152 = 0
    · rw [if_pos c8] at H
      have c8b0 : (t152 == 0) = true := beq_iff_eq.mpr c8
      have c8b1 : (t152 != 0) = false := bne_eq_false_iff_eq.mpr c8
      clear c8
      replace H := Option.bind_eq_some_iff.mp H
      obtain ⟨t153, A90, H⟩ := H
      have A9 := Aside0.mk A90
      clear A90
      by_cases c10 : t153 = 1
      · rw [if_pos c10] at H
        have c10b0 : (t153 == 1) = true := beq_iff_eq.mpr c10
        have c10b1 : (t153 != 1) = false := bne_eq_false_iff_eq.mpr c10
        clear c10
        replace H := Option.bind_eq_some_iff.mp H
        obtain ⟨t154, A110, H⟩ := H
        have A11 := Aside0.mk A110
        clear A110
        by_cases c12 : t154 = 1
        · rw [if_pos c12] at H
          have c12b0 : (t154 == 1) = true := beq_iff_eq.mpr c12
          have c12b1 : (t154 != 1) = false := bne_eq_false_iff_eq.mpr c12
          clear c12
          by_cases c13 : t131 = 0
          · rw [if_pos c13] at H
            have c13b0 : (t131 == 0) = true := beq_iff_eq.mpr c13
            have c13b1 : (t131 != 0) = false := bne_eq_false_iff_eq.mpr c13
            clear c13
            by_cases c14 : t130.toList = ([3, 0, 0, 0, 10, 0, 0, 0, 60, 6] : List UInt8)
            · rw [if_pos c14] at H
              have c14b0 : (t130.toList == ([3, 0, 0, 0, 10, 0, 0, 0, 60, 6] : List UInt8)) = true := beq_iff_eq.mpr c14
              have c14b1 : (t130.toList != ([3, 0, 0, 0, 10, 0, 0, 0, 60, 6] : List UInt8)) = false := bne_eq_false_iff_eq.mpr c14
              clear c14
              by_cases c15 : t136 = 0
              · rw [if_pos c15] at H
                have c15b0 : (t136 == 0) = true := beq_iff_eq.mpr c15
                have c15b1 : (t136 != 0) = false := bne_eq_false_iff_eq.mpr c15
                clear c15
                by_cases c16 : (t132 == 3 && (t133 == 10 && (t134 == 60 && (t135 == 6)))) = true
                · rw [if_pos c16] at H
                  have c16b0 : (t132 == 3 && (t133 == 10 && (t134 == 60 && (t135 == 6)))) = true := c16
                  (try (have c16b1 : decide (t132 = 3 && (t133 == 10 && (t134 == 60 && (t135 == 6)))) = true := by simpa using c16))
                  (try (have c16b2 : (t132 == 3 && (t133 == 10 && (t134 == 60 && (t135 == 6)))) = true := by simpa using c16))
                  clear c16
                  by_cases c17 : t142 = 3
                  · rw [if_pos c17] at H
                    have c17b0 : (t142 == 3) = true := beq_iff_eq.mpr c17
                    have c17b1 : (t142 != 3) = false := bne_eq_false_iff_eq.mpr c17
                    clear c17
                    by_cases c18 : t148 = 2
                    · rw [if_pos c18] at H
                      have c18b0 : (t148 == 2) = true := beq_iff_eq.mpr c18
                      have c18b1 : (t148 != 2) = false := bne_eq_false_iff_eq.mpr c18
                      clear c18
                      by_cases c19 : t151 = 1
                      · rw [if_pos c19] at H
                        have c19b0 : (t151 == 1) = true := beq_iff_eq.mpr c19
                        have c19b1 : (t151 != 1) = false := bne_eq_false_iff_eq.mpr c19
                        clear c19
                        replace H := Option.bind_eq_some_iff.mp H
                        obtain ⟨t155, A200, H⟩ := H
                        have A20 := Aside0.mk A200
                        clear A200
                        by_cases c21 : t155 = 60
                        · rw [if_pos c21] at H
                          have c21b0 : (t155 == 60) = true := beq_iff_eq.mpr c21
                          have c21b1 : (t155 != 60) = false := bne_eq_false_iff_eq.mpr c21
                          clear c21
                          replace H := Option.bind_eq_some_iff.mp H
                          obtain ⟨t156, A220, H⟩ := H
                          have A22 := Aside0.mk A220
                          clear A220
                          by_cases c23 : t156 = 10
                          · rw [if_pos c23] at H
                            have c23b0 : (t156 == 10) = true := beq_iff_eq.mpr c23
                            have c23b1 : (t156 != 10) = false := bne_eq_false_iff_eq.mpr c23
                            clear c23
                            replace H := Option.bind_eq_some_iff.mp H
                            obtain ⟨t157, A240, H⟩ := H
                            have A24 := Aside0.mk A240
                            clear A240
                            by_cases c25 : t157 = true
                            · subst c25
                              rw [if_pos rfl] at H
                              replace H := Option.bind_eq_some_iff.mp H
                              obtain ⟨t158, A260, H⟩ := H
                              have A26 := Aside0.mk A260
                              clear A260
                              obtain rfl := Option.some.inj H
                              go_enter Try.func18, Try.ntmps18
                              go_wp2_with (first | ((with_reducible refine gate_dst (N := 1) rfl ?_); refine box_event ?hg (N := 1) ?hd (cs := #[.int .i64 0, .int .i64 0, .int .i64 0, .int .i64 0]) (t := 23) ?hr ?_; (case hd => rfl); (case hg => rfl); (case hr => first | (go_simp; done) | (go_simp; rfl)); intro gb129 hg w27 hbox hb; have BK129 := Aside0.mk (hbox); have GW129 := Aside0.mk ((by rw [hg]; exact (below_size (bl HB)) : w.heap.size ≤ gb129)); have GE129 := Aside0.mk ((by rw [hg]; exact (below_size (bl HB)) : w.heap.size ≤ gb129)); replace HB := Aside0.mk (below_step (bl HB) hb); clear hb hbox hg; obtain ⟨hcz28_0, hcz28_1, hcz28_2, hcz28_3⟩ := ce4 BK129; obtain ⟨hfz28_0, hfz28_1, hfz28_2, hfz28_3⟩ := fr4 BK129) | ((with_reducible refine gate_store (t := 23) (p := 1) rfl ?_); refine store_event (t := 23) (p := 1) (v := ?vo_w29) (w1 := ((((w27.setCell ⟨gb129, 0, none⟩ (.int .i64 3)).setCell ⟨gb129, 1, none⟩ (.int .i64 10)).setCell ⟨gb129, 2, none⟩ (.int .i64 60)).setCell ⟨gb129, 3, none⟩ (.int .i64 6))) ?hg ?ho ?hn ?hr ?_; (case ho => rfl); (case hg => rfl); (case hn => rfl); (case hr => first | (go_simp; done) | (go_simp; rfl)); intro w29 hw; replace BK129 : Aside0 (w29.heap[gb129]? = some (.cells #[.int .i64 3, .int .i64 10, .int .i64 60, .int .i64 6] 23 (0, 0))) := ⟨(by rw [hw]; exact (by (with_reducible repeat (first | refine blk_drewN ?_ _ | refine blk_drew ?_ | refine blk_alloc ?_ _)); refine blk_put (cs := #[.int .i64 3, .int .i64 10, .int .i64 60, .int .i64 0]) ?_ 3 _ rfl; (with_reducible repeat (first | refine blk_drewN ?_ _ | refine blk_drew ?_ | refine blk_alloc ?_ _)); refine blk_put (cs := #[.int .i64 3, .int .i64 10, .int .i64 0, .int .i64 0]) ?_ 2 _ rfl; (with_reducible repeat (first | refine blk_drewN ?_ _ | refine blk_drew ?_ | refine blk_alloc ?_ _)); refine blk_put (cs := #[.int .i64 3, .int .i64 0, .int .i64 0, .int .i64 0]) ?_ 1 _ rfl; (with_reducible repeat (first | refine blk_drewN ?_ _ | refine blk_drew ?_ | refine blk_alloc ?_ _)); refine blk_put (cs := #[.int .i64 0, .int .i64 0, .int .i64 0, .int .i64 0]) ?_ 0 _ rfl; (with_reducible repeat (first | refine blk_drewN ?_ _ | refine blk_drew ?_ | refine blk_alloc ?_ _)); exact BK129.out))⟩; replace HB : Aside0 (Below w.heap.size w w29) := ⟨(by rw [hw]; exact (bl HB))⟩; clear hw; obtain ⟨hcz30_0, hcz30_1, hcz30_2, hcz30_3⟩ := ce4 BK129; obtain ⟨hfz30_0, hfz30_1, hfz30_2, hfz30_3⟩ := fr4 BK129) | ((with_reducible refine gate_callee (f := 8) rfl ?_); refine goesL_ (some 15) rfl rfl Try.func8 (by kernel_rfl) rfl #[.agg #[.int .i64 3, .int .i64 10, .int .i64 60, .int .i64 6]] rfl (by (try simp only [List.map_toArray, List.map_cons, List.map_nil]); first | done | rfl | (simp only [List.length_drop, List.length_take]; rfl)) ?_; (with_reducible refine (policy_Encode.calls k 3 10 60 6 t130 t131 _ A1.out).mono ?_); rintro e w31 ⟨rfl, hb⟩; refine ⟨_, rfl, ?_⟩; replace BK129 := Aside0.mk (blk_below (bo BK129) hb); replace HB := Aside0.mk (below_step (bl HB) hb); (try clear hb); (try clear hb2); (try clear hk); (try clear hi)) | ((with_reducible refine gate_callee (f := 19) rfl ?_); refine goesL_ (some 20) rfl rfl Try.func19 (by kernel_rfl) rfl #[.string t130] rfl (by (try simp only [List.map_toArray, List.map_cons, List.map_nil]); first | done | rfl | (simp only [List.length_drop, List.length_take]; rfl)) ?_; (with_reducible refine (policy_Decode.calls t130 t132 t133 t134 t135 t136 _ A2.out).mono ?_); rintro e w32 ⟨rfl, hb⟩; refine ⟨_, rfl, ?_⟩; replace BK129 := Aside0.mk (blk_below (bo BK129) hb); replace HB := Aside0.mk (below_step (bl HB) hb); (try clear hb); (try clear hb2); (try clear hk); (try clear hi)) | ((with_reducible refine gate_dst (N := 4) rfl ?_); refine box_event ?hg (N := 4) ?hd (cs := #[.int .i64 0, .int .i64 0, .int .i64 0, .int .i64 0]) (t := 23) ?hr ?_; (case hd => rfl); (case hg => rfl); (case hr => first | (go_simp; done) | (go_simp; rfl)); intro gb137 hg w33 hbox hb; have BK137 := Aside0.mk (hbox); have GW137 := Aside0.mk ((by rw [hg]; exact (below_size (bl HB)) : w.heap.size ≤ gb137)); have GE137 := Aside0.mk ((by rw [hg]; exact (below_size (bl HB)) : w.heap.size ≤ gb137)); have NB129_137 := nb BK129 hg; have NB137_129 := bn BK129 hg; replace BK129 := Aside0.mk (blk_below (bo BK129) hb); replace HB := Aside0.mk (below_step (bl HB) hb); clear hb hbox hg; have hnb34 := NB137_129.out; have hnc34 := NB129_137.out; obtain ⟨hcz35_0, hcz35_1, hcz35_2, hcz35_3⟩ := ce4 BK137; obtain ⟨hfz35_0, hfz35_1, hfz35_2, hfz35_3⟩ := fr4 BK137) | ((with_reducible refine gate_store (t := 23) (p := 4) rfl ?_); refine store_event (t := 23) (p := 4) (v := ?vo_w36) (w1 := ((((w33.setCell ⟨gb137, 0, none⟩ (.int .i64 t132)).setCell ⟨gb137, 1, none⟩ (.int .i64 t133)).setCell ⟨gb137, 2, none⟩ (.int .i64 t134)).setCell ⟨gb137, 3, none⟩ (.int .i64 t135))) ?hg ?ho ?hn ?hr ?_; (case ho => rfl); (case hg => rfl); (case hn => rfl); (case hr => first | (go_simp; done) | (go_simp; rfl)); intro w36 hw; replace BK129 : Aside0 (w36.heap[gb129]? = some (.cells #[.int .i64 3, .int .i64 10, .int .i64 60, .int .i64 6] 23 (0, 0))) := ⟨(by rw [hw]; exact (by (with_reducible repeat (first | refine blk_drewN ?_ _ | refine blk_drew ?_ | refine blk_alloc ?_ _)); refine blk_far ?_ NB129_137.out _; (with_reducible repeat (first | refine blk_drewN ?_ _ | refine blk_drew ?_ | refine blk_alloc ?_ _)); refine blk_far ?_ NB129_137.out _; (with_reducible repeat (first | refine blk_drewN ?_ _ | refine blk_drew ?_ | refine blk_alloc ?_ _)); refine blk_far ?_ NB129_137.out _; (with_reducible repeat (first | refine blk_drewN ?_ _ | refine blk_drew ?_ | refine blk_alloc ?_ _)); refine blk_far ?_ NB129_137.out _; (with_reducible repeat (first | refine blk_drewN ?_ _ | refine blk_drew ?_ | refine blk_alloc ?_ _)); exact BK129.out))⟩; replace BK137 : Aside0 (w36.heap[gb137]? = some (.cells #[.int .i64 t132, .int .i64 t133, .int .i64 t134, .int .i64 t135] 23 (0, 0))) := ⟨(by rw [hw]; exact (by (with_reducible repeat (first | refine blk_drewN ?_ _ | refine blk_drew ?_ | refine blk_alloc ?_ _)); refine blk_put (cs := #[.int .i64 t132, .int .i64 t133, .int .i64 t134, .int .i64 0]) ?_ 3 _ rfl; (with_reducible repeat (first | refine blk_drewN ?_ _ | refine blk_drew ?_ | refine blk_alloc ?_ _)); refine blk_put (cs := #[.int .i64 t132, .int .i64 t133, .int .i64 0, .int .i64 0]) ?_ 2 _ rfl; (with_reducible repeat (first | refine blk_drewN ?_ _ | refine blk_drew ?_ | refine blk_alloc ?_ _)); refine blk_put (cs := #[.int .i64 t132, .int .i64 0, .int .i64 0, .int .i64 0]) ?_ 1 _ rfl; (with_reducible repeat (first | refine blk_drewN ?_ _ | refine blk_drew ?_ | refine blk_alloc ?_ _)); refine blk_put (cs := #[.int .i64 0, .int .i64 0, .int .i64 0, .int .i64 0]) ?_ 0 _ rfl; (with_reducible repeat (first | refine blk_drewN ?_ _ | refine blk_drew ?_ | refine blk_alloc ?_ _)); exact BK137.out))⟩; replace HB : Aside0 (Below w.heap.size w w36) := ⟨(by rw [hw]; exact (bl HB))⟩; clear hw) | ((with_reducible refine gate_callee (f := 19) rfl ?_); refine goesL_ (some 26) rfl rfl Try.func19 (by kernel_rfl) rfl #[.string (t130 ++ (⟨#[120]⟩ : ByteArray))] rfl (by (try simp only [List.map_toArray, List.map_cons, List.map_nil]); first | done | rfl | (simp only [List.length_drop, List.length_take]; rfl)) ?_; (with_reducible refine (policy_Decode.calls (t130 ++ (⟨#[120]⟩ : ByteArray)) t138 t139 t140 t141 t142 _ A4.out).mono ?_); rintro e w37 ⟨rfl, hb⟩; refine ⟨_, rfl, ?_⟩; replace BK129 := Aside0.mk (blk_below (bo BK129) hb); replace BK137 := Aside0.mk (blk_below (bo BK137) hb); replace HB := Aside0.mk (below_step (bl HB) hb); (try clear hb); (try clear hb2); (try clear hk); (try clear hi)) | ((with_reducible refine gate_dst (N := 6) rfl ?_); refine box_event ?hg (N := 6) ?hd (cs := #[.int .i64 0, .int .i64 0, .int .i64 0, .int .i64 0]) (t := 23) ?hr ?_; (case hd => rfl); (case hg => rfl); (case hr => first | (go_simp; done) | (go_simp; rfl)); intro gb143 hg w38 hbox hb; have BK143 := Aside0.mk (hbox); have GW143 := Aside0.mk ((by rw [hg]; exact (below_size (bl HB)) : w.heap.size ≤ gb143)); have GE143 := Aside0.mk ((by rw [hg]; exact (below_size (bl HB)) : w.heap.size ≤ gb143)); have NB129_143 := nb BK129 hg; have NB143_129 := bn BK129 hg; have NB137_143 := nb BK137 hg; have NB143_137 := bn BK137 hg; replace BK129 := Aside0.mk (blk_below (bo BK129) hb); replace BK137 := Aside0.mk (blk_below (bo BK137) hb); replace HB := Aside0.mk (below_step (bl HB) hb); clear hb hbox hg; have hnb39 := NB143_129.out; have hnc39 := NB129_143.out; have hnb40 := NB143_137.out; have hnc40 := NB137_143.out; obtain ⟨hcz41_0, hcz41_1, hcz41_2, hcz41_3⟩ := ce4 BK143; obtain ⟨hfz41_0, hfz41_1, hfz41_2, hfz41_3⟩ := fr4 BK143) | ((with_reducible refine gate_store (t := 23) (p := 6) rfl ?_); refine store_event (t := 23) (p := 6) (v := ?vo_w42) (w1 := ((((w38.setCell ⟨gb143, 0, none⟩ (.int .i64 t138)).setCell ⟨gb143, 1, none⟩ (.int .i64 t139)).setCell ⟨gb143, 2, none⟩ (.int .i64 t140)).setCell ⟨gb143, 3, none⟩ (.int .i64 t141))) ?hg ?ho ?hn ?hr ?_; (case ho => rfl); (case hg => rfl); (case hn => rfl); (case hr => first | (go_simp; done) | (go_simp; rfl)); intro w42 hw; replace BK129 : Aside0 (w42.heap[gb129]? = some (.cells #[.int .i64 3, .int .i64 10, .int .i64 60, .int .i64 6] 23 (0, 0))) := ⟨(by rw [hw]; exact (by (with_reducible repeat (first | refine blk_drewN ?_ _ | refine blk_drew ?_ | refine blk_alloc ?_ _)); refine blk_far ?_ NB129_143.out _; (with_reducible repeat (first | refine blk_drewN ?_ _ | refine blk_drew ?_ | refine blk_alloc ?_ _)); refine blk_far ?_ NB129_143.out _; (with_reducible repeat (first | refine blk_drewN ?_ _ | refine blk_drew ?_ | refine blk_alloc ?_ _)); refine blk_far ?_ NB129_143.out _; (with_reducible repeat (first | refine blk_drewN ?_ _ | refine blk_drew ?_ | refine blk_alloc ?_ _)); refine blk_far ?_ NB129_143.out _; (with_reducible repeat (first | refine blk_drewN ?_ _ | refine blk_drew ?_ | refine blk_alloc ?_ _)); exact BK129.out))⟩; replace BK137 : Aside0 (w42.heap[gb137]? = some (.cells #[.int .i64 t132, .int .i64 t133, .int .i64 t134, .int .i64 t135] 23 (0, 0))) := ⟨(by rw [hw]; exact (by (with_reducible repeat (first | refine blk_drewN ?_ _ | refine blk_drew ?_ | refine blk_alloc ?_ _)); refine blk_far ?_ NB137_143.out _; (with_reducible repeat (first | refine blk_drewN ?_ _ | refine blk_drew ?_ | refine blk_alloc ?_ _)); refine blk_far ?_ NB137_143.out _; (with_reducible repeat (first | refine blk_drewN ?_ _ | refine blk_drew ?_ | refine blk_alloc ?_ _)); refine blk_far ?_ NB137_143.out _; (with_reducible repeat (first | refine blk_drewN ?_ _ | refine blk_drew ?_ | refine blk_alloc ?_ _)); refine blk_far ?_ NB137_143.out _; (with_reducible repeat (first | refine blk_drewN ?_ _ | refine blk_drew ?_ | refine blk_alloc ?_ _)); exact BK137.out))⟩; replace BK143 : Aside0 (w42.heap[gb143]? = some (.cells #[.int .i64 t138, .int .i64 t139, .int .i64 t140, .int .i64 t141] 23 (0, 0))) := ⟨(by rw [hw]; exact (by (with_reducible repeat (first | refine blk_drewN ?_ _ | refine blk_drew ?_ | refine blk_alloc ?_ _)); refine blk_put (cs := #[.int .i64 t138, .int .i64 t139, .int .i64 t140, .int .i64 0]) ?_ 3 _ rfl; (with_reducible repeat (first | refine blk_drewN ?_ _ | refine blk_drew ?_ | refine blk_alloc ?_ _)); refine blk_put (cs := #[.int .i64 t138, .int .i64 t139, .int .i64 0, .int .i64 0]) ?_ 2 _ rfl; (with_reducible repeat (first | refine blk_drewN ?_ _ | refine blk_drew ?_ | refine blk_alloc ?_ _)); refine blk_put (cs := #[.int .i64 t138, .int .i64 0, .int .i64 0, .int .i64 0]) ?_ 1 _ rfl; (with_reducible repeat (first | refine blk_drewN ?_ _ | refine blk_drew ?_ | refine blk_alloc ?_ _)); refine blk_put (cs := #[.int .i64 0, .int .i64 0, .int .i64 0, .int .i64 0]) ?_ 0 _ rfl; (with_reducible repeat (first | refine blk_drewN ?_ _ | refine blk_drew ?_ | refine blk_alloc ?_ _)); exact BK143.out))⟩; replace HB : Aside0 (Below w.heap.size w w42) := ⟨(by rw [hw]; exact (bl HB))⟩; clear hw) | ((with_reducible refine gate_callee (f := 19) rfl ?_); refine goesL_ (some 30) rfl rfl Try.func19 (by kernel_rfl) rfl #[.string (⟨#[120]⟩ : ByteArray)] rfl (by (try simp only [List.map_toArray, List.map_cons, List.map_nil]); first | done | rfl | (simp only [List.length_drop, List.length_take]; rfl)) ?_; (with_reducible refine (policy_Decode.calls (⟨#[120]⟩ : ByteArray) t144 t145 t146 t147 t148 _ A5.out).mono ?_); rintro e w43 ⟨rfl, hb⟩; refine ⟨_, rfl, ?_⟩; replace BK129 := Aside0.mk (blk_below (bo BK129) hb); replace BK137 := Aside0.mk (blk_below (bo BK137) hb); replace BK143 := Aside0.mk (blk_below (bo BK143) hb); replace HB := Aside0.mk (below_step (bl HB) hb); (try clear hb); (try clear hb2); (try clear hk); (try clear hi)) | ((with_reducible refine gate_dst (N := 8) rfl ?_); refine box_event ?hg (N := 8) ?hd (cs := #[.int .i64 0, .int .i64 0, .int .i64 0, .int .i64 0]) (t := 23) ?hr ?_; (case hd => rfl); (case hg => rfl); (case hr => first | (go_simp; done) | (go_simp; rfl)); intro gb149 hg w44 hbox hb; have BK149 := Aside0.mk (hbox); have GW149 := Aside0.mk ((by rw [hg]; exact (below_size (bl HB)) : w.heap.size ≤ gb149)); have GE149 := Aside0.mk ((by rw [hg]; exact (below_size (bl HB)) : w.heap.size ≤ gb149)); have NB129_149 := nb BK129 hg; have NB149_129 := bn BK129 hg; have NB137_149 := nb BK137 hg; have NB149_137 := bn BK137 hg; have NB143_149 := nb BK143 hg; have NB149_143 := bn BK143 hg; replace BK129 := Aside0.mk (blk_below (bo BK129) hb); replace BK137 := Aside0.mk (blk_below (bo BK137) hb); replace BK143 := Aside0.mk (blk_below (bo BK143) hb); replace HB := Aside0.mk (below_step (bl HB) hb); clear hb hbox hg; have hnb45 := NB149_129.out; have hnc45 := NB129_149.out; have hnb46 := NB149_137.out; have hnc46 := NB137_149.out; have hnb47 := NB149_143.out; have hnc47 := NB143_149.out; obtain ⟨hcz48_0, hcz48_1, hcz48_2, hcz48_3⟩ := ce4 BK149; obtain ⟨hfz48_0, hfz48_1, hfz48_2, hfz48_3⟩ := fr4 BK149) | ((with_reducible refine gate_store (t := 23) (p := 8) rfl ?_); refine store_event (t := 23) (p := 8) (v := ?vo_w49) (w1 := ((((w44.setCell ⟨gb149, 0, none⟩ (.int .i64 t144)).setCell ⟨gb149, 1, none⟩ (.int .i64 t145)).setCell ⟨gb149, 2, none⟩ (.int .i64 t146)).setCell ⟨gb149, 3, none⟩ (.int .i64 t147))) ?hg ?ho ?hn ?hr ?_; (case ho => rfl); (case hg => rfl); (case hn => rfl); (case hr => first | (go_simp; done) | (go_simp; rfl)); intro w49 hw; replace BK129 : Aside0 (w49.heap[gb129]? = some (.cells #[.int .i64 3, .int .i64 10, .int .i64 60, .int .i64 6] 23 (0, 0))) := ⟨(by rw [hw]; exact (by (with_reducible repeat (first | refine blk_drewN ?_ _ | refine blk_drew ?_ | refine blk_alloc ?_ _)); refine blk_far ?_ NB129_149.out _; (with_reducible repeat (first | refine blk_drewN ?_ _ | refine blk_drew ?_ | refine blk_alloc ?_ _)); refine blk_far ?_ NB129_149.out _; (with_reducible repeat (first | refine blk_drewN ?_ _ | refine blk_drew ?_ | refine blk_alloc ?_ _)); refine blk_far ?_ NB129_149.out _; (with_reducible repeat (first | refine blk_drewN ?_ _ | refine blk_drew ?_ | refine blk_alloc ?_ _)); refine blk_far ?_ NB129_149.out _; (with_reducible repeat (first | refine blk_drewN ?_ _ | refine blk_drew ?_ | refine blk_alloc ?_ _)); exact BK129.out))⟩; replace BK137 : Aside0 (w49.heap[gb137]? = some (.cells #[.int .i64 t132, .int .i64 t133, .int .i64 t134, .int .i64 t135] 23 (0, 0))) := ⟨(by rw [hw]; exact (by (with_reducible repeat (first | refine blk_drewN ?_ _ | refine blk_drew ?_ | refine blk_alloc ?_ _)); refine blk_far ?_ NB137_149.out _; (with_reducible repeat (first | refine blk_drewN ?_ _ | refine blk_drew ?_ | refine blk_alloc ?_ _)); refine blk_far ?_ NB137_149.out _; (with_reducible repeat (first | refine blk_drewN ?_ _ | refine blk_drew ?_ | refine blk_alloc ?_ _)); refine blk_far ?_ NB137_149.out _; (with_reducible repeat (first | refine blk_drewN ?_ _ | refine blk_drew ?_ | refine blk_alloc ?_ _)); refine blk_far ?_ NB137_149.out _; (with_reducible repeat (first | refine blk_drewN ?_ _ | refine blk_drew ?_ | refine blk_alloc ?_ _)); exact BK137.out))⟩; replace BK143 : Aside0 (w49.heap[gb143]? = some (.cells #[.int .i64 t138, .int .i64 t139, .int .i64 t140, .int .i64 t141] 23 (0, 0))) := ⟨(by rw [hw]; exact (by (with_reducible repeat (first | refine blk_drewN ?_ _ | refine blk_drew ?_ | refine blk_alloc ?_ _)); refine blk_far ?_ NB143_149.out _; (with_reducible repeat (first | refine blk_drewN ?_ _ | refine blk_drew ?_ | refine blk_alloc ?_ _)); refine blk_far ?_ NB143_149.out _; (with_reducible repeat (first | refine blk_drewN ?_ _ | refine blk_drew ?_ | refine blk_alloc ?_ _)); refine blk_far ?_ NB143_149.out _; (with_reducible repeat (first | refine blk_drewN ?_ _ | refine blk_drew ?_ | refine blk_alloc ?_ _)); refine blk_far ?_ NB143_149.out _; (with_reducible repeat (first | refine blk_drewN ?_ _ | refine blk_drew ?_ | refine blk_alloc ?_ _)); exact BK143.out))⟩; replace BK149 : Aside0 (w49.heap[gb149]? = some (.cells #[.int .i64 t144, .int .i64 t145, .int .i64 t146, .int .i64 t147] 23 (0, 0))) := ⟨(by rw [hw]; exact (by (with_reducible repeat (first | refine blk_drewN ?_ _ | refine blk_drew ?_ | refine blk_alloc ?_ _)); refine blk_put (cs := #[.int .i64 t144, .int .i64 t145, .int .i64 t146, .int .i64 0]) ?_ 3 _ rfl; (with_reducible repeat (first | refine blk_drewN ?_ _ | refine blk_drew ?_ | refine blk_alloc ?_ _)); refine blk_put (cs := #[.int .i64 t144, .int .i64 t145, .int .i64 0, .int .i64 0]) ?_ 2 _ rfl; (with_reducible repeat (first | refine blk_drewN ?_ _ | refine blk_drew ?_ | refine blk_alloc ?_ _)); refine blk_put (cs := #[.int .i64 t144, .int .i64 0, .int .i64 0, .int .i64 0]) ?_ 1 _ rfl; (with_reducible repeat (first | refine blk_drewN ?_ _ | refine blk_drew ?_ | refine blk_alloc ?_ _)); refine blk_put (cs := #[.int .i64 0, .int .i64 0, .int .i64 0, .int .i64 0]) ?_ 0 _ rfl; (with_reducible repeat (first | refine blk_drewN ?_ _ | refine blk_drew ?_ | refine blk_alloc ?_ _)); exact BK149.out))⟩; replace HB : Aside0 (Below w.heap.size w w49) := ⟨(by rw [hw]; exact (bl HB))⟩; clear hw) | ((with_reducible refine gate_callee (f := 8) rfl ?_); refine goesL_ (some 35) rfl rfl Try.func8 (by kernel_rfl) rfl #[.agg #[.int .i64 0, .int .i64 0, .int .i64 0, .int .i64 0]] rfl (by (try simp only [List.map_toArray, List.map_cons, List.map_nil]); first | done | rfl | (simp only [List.length_drop, List.length_take]; rfl)) ?_; (with_reducible refine (policy_Encode.calls k 0 0 0 0 t150 t151 _ A6.out).mono ?_); rintro e w50 ⟨rfl, hb⟩; refine ⟨_, rfl, ?_⟩; replace BK129 := Aside0.mk (blk_below (bo BK129) hb); replace BK137 := Aside0.mk (blk_below (bo BK137) hb); replace BK143 := Aside0.mk (blk_below (bo BK143) hb); replace BK149 := Aside0.mk (blk_below (bo BK149) hb); replace HB := Aside0.mk (below_step (bl HB) hb); (try clear hb); (try clear hb2); (try clear hk); (try clear hi); obtain ⟨hcz51_0, hcz51_1, hcz51_2, hcz51_3⟩ := ce4 BK129; obtain ⟨hfz51_0, hfz51_1, hfz51_2, hfz51_3⟩ := fr4 BK129) | ((with_reducible refine gate_callee (f := 10) rfl ?_); refine goesL_ (some 39) rfl rfl Try.func10 (by kernel_rfl) rfl #[.agg #[.int .i64 3, .int .i64 10, .int .i64 60, .int .i64 6]] rfl (by (try simp only [List.map_toArray, List.map_cons, List.map_nil]); first | done | rfl | (simp only [List.length_drop, List.length_take]; rfl)) ?_; (with_reducible refine (policy_Check.calls 3 10 60 6 t152 _ A7.out).mono ?_); rintro e w52 ⟨rfl, hb⟩; refine ⟨_, rfl, ?_⟩; replace BK129 := Aside0.mk (blk_below (bo BK129) hb); replace BK137 := Aside0.mk (blk_below (bo BK137) hb); replace BK143 := Aside0.mk (blk_below (bo BK143) hb); replace BK149 := Aside0.mk (blk_below (bo BK149) hb); replace HB := Aside0.mk (below_step (bl HB) hb); (try clear hb); (try clear hb2); (try clear hk); (try clear hi)) | (go_at_call 10; (with_reducible refine (policy_Check.calls 3 10 60 7 t153 _ A9.out).mono ?_); rintro e w53 ⟨rfl, hb⟩; replace BK129 := Aside0.mk (blk_below (bo BK129) hb); replace BK137 := Aside0.mk (blk_below (bo BK137) hb); replace BK143 := Aside0.mk (blk_below (bo BK143) hb); replace BK149 := Aside0.mk (blk_below (bo BK149) hb); replace HB := Aside0.mk (below_step (bl HB) hb); (try clear hb); (try clear hb2); (try clear hk); (try clear hi)) | (go_at_call 10; (with_reducible refine (policy_Check.calls 4 17 60 0 t154 _ A11.out).mono ?_); rintro e w54 ⟨rfl, hb⟩; replace BK129 := Aside0.mk (blk_below (bo BK129) hb); replace BK137 := Aside0.mk (blk_below (bo BK137) hb); replace BK143 := Aside0.mk (blk_below (bo BK143) hb); replace BK149 := Aside0.mk (blk_below (bo BK149) hb); replace HB := Aside0.mk (below_step (bl HB) hb); (try clear hb); (try clear hb2); (try clear hk); (try clear hi); obtain ⟨hcz55_0, hcz55_1, hcz55_2, hcz55_3⟩ := ce4 BK137; obtain ⟨hfz55_0, hfz55_1, hfz55_2, hfz55_3⟩ := fr4 BK137; obtain ⟨hcz56_0, hcz56_1, hcz56_2, hcz56_3⟩ := ce4 BK129; obtain ⟨hfz56_0, hfz56_1, hfz56_2, hfz56_3⟩ := fr4 BK129) | (go_at_call 12; (with_reducible refine (policy_Span.calls 3 10 60 6 t155 _ A20.out).mono ?_); rintro e w57 ⟨rfl, hb⟩; replace BK129 := Aside0.mk (blk_below (bo BK129) hb); replace BK137 := Aside0.mk (blk_below (bo BK137) hb); replace BK143 := Aside0.mk (blk_below (bo BK143) hb); replace BK149 := Aside0.mk (blk_below (bo BK149) hb); replace HB := Aside0.mk (below_step (bl HB) hb); (try clear hb); (try clear hb2); (try clear hk); (try clear hi); obtain ⟨hcz58_0, hcz58_1, hcz58_2, hcz58_3⟩ := ce4 BK129; obtain ⟨hfz58_0, hfz58_1, hfz58_2, hfz58_3⟩ := fr4 BK129) | (go_at_call 14; (with_reducible refine (policy_Slot.calls 3 10 60 6 t156 _ A22.out).mono ?_); rintro e w59 ⟨rfl, hb⟩; replace BK129 := Aside0.mk (blk_below (bo BK129) hb); replace BK137 := Aside0.mk (blk_below (bo BK137) hb); replace BK143 := Aside0.mk (blk_below (bo BK143) hb); replace BK149 := Aside0.mk (blk_below (bo BK149) hb); replace HB := Aside0.mk (below_step (bl HB) hb); (try clear hb); (try clear hb2); (try clear hk); (try clear hi)) | (go_at_call 16; (with_reducible refine (policy_Weighs.calls 1 true _ A24.out).mono ?_); rintro e w' ⟨rfl, ⟨nd, rfl⟩⟩) | (go_at_call 16; (with_reducible refine (policy_Weighs.calls 0 t158 _ A26.out).mono ?_); rintro e w' ⟨rfl, ⟨nd, rfl⟩⟩))
                              go_ret
                              exact ⟨by first | (with_reducible rfl) | rfl | (simp [errW_none, errW_some] <;> rfl) | (simp [*, errW_none, errW_some] <;> rfl), bl HB⟩
                            · replace c25 := Bool.eq_false_iff.mpr c25
                              subst c25
                              rw [if_neg (show ¬ (false = true) by decide)] at H
                              exact absurd H (by simp)
                          · rw [if_neg c23] at H
                            exact absurd H (by simp)
                        · rw [if_neg c21] at H
                          exact absurd H (by simp)
                      · rw [if_neg c19] at H
                        exact absurd H (by simp)
                    · rw [if_neg c18] at H
                      exact absurd H (by simp)
                  · rw [if_neg c17] at H
                    exact absurd H (by simp)
                · rw [if_neg c16] at H
                  exact absurd H (by simp)
              · rw [if_neg c15] at H
                exact absurd H (by simp)
            · rw [if_neg c14] at H
              exact absurd H (by simp)
          · rw [if_neg c13] at H
            exact absurd H (by simp)
        · rw [if_neg c12] at H
          exact absurd H (by simp)
      · rw [if_neg c10] at H
        exact absurd H (by simp)
    · rw [if_neg c8] at H
      exact absurd H (by simp)
  · rw [if_neg c3] at H
    exact absurd H (by simp)

end Go.Proofs.Ytjhipnhnbnnodaa.Q
