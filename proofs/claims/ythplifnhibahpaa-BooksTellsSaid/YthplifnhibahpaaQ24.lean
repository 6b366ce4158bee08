-- Laid by wip/tools/hprint.py, a program of this repo, over the kit's print; not a text of print.sh.
import Derived.Test.YthplifnhibahpaaQ0
import Derived.Test.YthplifnhibahpaaQ1
import Derived.Test.YthplifnhibahpaaQ8
import Derived.Test.YthplifnhibahpaaQ10
import Derived.Test.YthplifnhibahpaaQ11
import Derived.Test.YthplifnhibahpaaQ12
import Derived.Test.YthplifnhibahpaaQ13
import Derived.Test.YthplifnhibahpaaQ17
import Derived.Test.YthplifnhibahpaaQ19
import Derived.Test.YthplifnhibahpaaQ20
import Derived.Test.YthplifnhibahpaaQ21
import Derived.Test.YthplifnhibahpaaQ22
import Derived.Test.YthplifnhibahpaaQ23
namespace Go.Proofs.Ythplifnhibahpaa.Q
open Go.RowKit Go.Proofs.Ythplifnhibahpaa.Zip Go.Proofs.YthplifnhibahpaaW.PrintWords Go.Proofs.YthplifnhibahpaaW.PrintLast Go.Proofs.YthplifnhibahpaaW.PrintMore
attribute [local go_sem] max2_int min2_int max_two min_two max_three min_three max_four min_four   -- for this text's walks alone
set_option linter.unusedVariables false
set_option linter.unusedSimpArgs false

attribute [local go_sem high] eqA25
/-! ### sandglasslaw16_BooksTells: function 3 -/
def sandglasslaw16_BooksTells.f (k : Nat) (l0 : List (S43)) (a1 : Int) : Option (Bool) := if (l0.length : Int) > 20 then ((sandglasslaw16_live.f k).bind fun t211 => (some t211)) else ((books_Get.f k l0 a1).bind fun bt212 => ((sandglassref16_Get.f k l0 a1).bind fun bt219 => ((books_May.f k l0).bind fun t226 => ((sandglassref16_May.f k l0).bind fun t227 => (if (t226 == t227) = true then ((books_Live.f k l0).bind fun t228 => ((sandglassref16_Live.f k l0).bind fun t231 => ((sandglassref04_Ints.f k t228 t231).bind fun t234 => (if t234 = true then (if (bt212.1 == bt219.1 && (bt212.2.1 == bt219.2.1 && (bt212.2.2.1 == bt219.2.2.1 && (bt212.2.2.2.1 == bt219.2.2.2.1)))) = true then (if bt212.2.2.2.2.1 = bt219.2.2.2.2.1 then (if bt212.2.2.2.2.2 = bt219.2.2.2.2.2 then ((books_New.f).bind fun t235 => ((sandglassref16_New.f).bind fun t238 => ((sandglassref16_Same.f k t235 t238).bind fun t241 => (if t241 = true then ((sandglasslaw16_live.f k).bind fun t242 => (some t242)) else (none))))) else (none)) else (none)) else (none)) else (none))))) else (none))))))
theorem sandglasslaw16_BooksTells.mono : ∀ a0 a1 k, LeO (sandglasslaw16_BooksTells.f k a0 a1) (sandglasslaw16_BooksTells.f (k + 1) a0 a1) := by
  intro a0 a1 k
  unfold sandglasslaw16_BooksTells.f
  repeat' first
      | (with_reducible exact books_Get.mono _ _ _)
      | (with_reducible exact books_Live.mono _ _)
      | (with_reducible exact books_May.mono _ _)
      | (with_reducible exact sandglasslaw16_live.mono _)
      | (with_reducible exact sandglassref04_Ints.mono _ _ _)
      | (with_reducible exact sandglassref16_Get.mono _ _ _)
      | (with_reducible exact sandglassref16_Live.mono _ _)
      | (with_reducible exact sandglassref16_May.mono _ _)
      | (with_reducible exact sandglassref16_Same.mono _ _ _)
      | (with_reducible exact LeO.refl _)
      | (with_reducible exact LeO.none _)
      | (with_reducible refine LeO.ite ?_ ?_)
      | (with_reducible refine LeO.bind ?_ (fun _ => ?_))
      | exact books_Get.mono _ _ _
      | exact books_Live.mono _ _
      | exact books_May.mono _ _
      | exact sandglasslaw16_live.mono _
      | exact sandglassref04_Ints.mono _ _ _
      | exact sandglassref16_Get.mono _ _ _
      | exact sandglassref16_Live.mono _ _
      | exact sandglassref16_May.mono _ _
      | exact sandglassref16_Same.mono _ _ _
      | exact LeO.none _
      | refine LeO.ite ?_ ?_
      | refine LeO.bind ?_ (fun _ => ?_)
set_option maxHeartbeats 8000000 in
set_option maxRecDepth 100000 in
theorem sandglasslaw16_BooksTells.calls (k : Nat) (A0 : Option Addr) (c0 : Nat) (l0 : List (S43)) (a1 : Int) (r : Bool) (w : World) (hr0 : Kd.C k43 w A0 l0.length l0) (hc0 : l0.length ≤ c0) (h : sandglasslaw16_BooksTells.f k l0 a1 = some r) :
    Calls Try.prog 3 #[.slice A0 l0.length c0, .int .i64 a1] w fun e w' => e = .returned (.bool r) ∧ Below w.heap.size w w' := by
  have hu25 := Try.underlying25
  have HR0 := Aside0.mk hr0
  have HC0 := Aside0.mk hc0
  clear hr0 hc0
  have HB := Aside0.mk (Below.refl w.heap.size w)
  have H : (if (l0.length : Int) > 20 then ((sandglasslaw16_live.f k).bind fun t211 => (some t211)) else ((books_Get.f k l0 a1).bind fun bt212 => ((sandglassref16_Get.f k l0 a1).bind fun bt219 => ((books_May.f k l0).bind fun t226 => ((sandglassref16_May.f k l0).bind fun t227 => (if (t226 == t227) = true then ((books_Live.f k l0).bind fun t228 => ((sandglassref16_Live.f k l0).bind fun t231 => ((sandglassref04_Ints.f k t228 t231).bind fun t234 => (if t234 = true then (if (bt212.1 == bt219.1 && (bt212.2.1 == bt219.2.1 && (bt212.2.2.1 == bt219.2.2.1 && (bt212.2.2.2.1 == bt219.2.2.2.1)))) = true then (if bt212.2.2.2.2.1 = bt219.2.2.2.2.1 then (if bt212.2.2.2.2.2 = bt219.2.2.2.2.2 then ((books_New.f).bind fun t235 => ((sandglassref16_New.f).bind fun t238 => ((sandglassref16_Same.f k t235 t238).bind fun t241 => (if t241 = true then ((sandglasslaw16_live.f k).bind fun t242 => (some t242)) else (none))))) else (none)) else (none)) else (none)) else (none))))) else (none))))))) = some r := h
  clear h
  by_cases c3 : (l0.length : Int) > 20
  · rw [if_pos c3] at H
    have c3b0 : decide (20 < (l0.length : Int)) = true := decide_eq_true c3
    have c3b1 : decide (20 < l0.length) = true := decide_eq_true (by omega)
    clear c3
    replace H := Option.bind_eq_some_iff.mp H
    obtain ⟨t211, A40, H⟩ := H
    have A4 := Aside0.mk A40
    clear A40
    obtain rfl := Option.some.inj H
    go_enter Try.func3, Try.ntmps3
    go_wp2_with (first | ((with_reducible refine gate_callee (f := 8) rfl ?_); refine goesL_ (some 14) rfl rfl Try.func8 (by kernel_rfl) rfl #[] rfl (by (try simp only [List.map_toArray, List.map_cons, List.map_nil]); first | done | rfl | (simp only [List.length_drop, List.length_take]; rfl)) ?_; (with_reducible refine (sandglasslaw16_live.calls k  t211 _ A4.out).mono ?_); rintro e w5 ⟨rfl, hb⟩; refine ⟨_, rfl, ?_⟩; replace HB := Aside0.mk (below_step (bl HB) hb); (try clear hb); (try clear hb2); (try clear hk); (try clear hi)))
    go_ret
    exact ⟨by first | (with_reducible rfl) | rfl | (simp [errW_none, errW_some] <;> rfl) | (simp [*, errW_none, errW_some] <;> rfl), bl HB⟩
  · rw [if_neg c3] at H
    have c3b0 : decide (20 < (l0.length : Int)) = false := decide_eq_false c3
    have c3b1 : decide (20 < l0.length) = false := decide_eq_false (by omega)
    clear c3
    replace H := Option.bind_eq_some_iff.mp H
    obtain ⟨⟨t212, t213, t214, t215, t216, t217⟩, A60, H⟩ := H
    have A6 := Aside0.mk A60
    clear A60
    replace H := Option.bind_eq_some_iff.mp H
    obtain ⟨⟨t219, t220, t221, t222, t223, t224⟩, A70, H⟩ := H
    have A7 := Aside0.mk A70
    clear A70
    replace H := Option.bind_eq_some_iff.mp H
    obtain ⟨t226, A80, H⟩ := H
    have A8 := Aside0.mk A80
    clear A80
    replace H := Option.bind_eq_some_iff.mp H
    obtain ⟨t227, A90, H⟩ := H
    have A9 := Aside0.mk A90
    clear A90
    by_cases c10 : (t226 == t227) = true
    · rw [if_pos c10] at H
      have c10b0 : (t226 == t227) = true := c10
      (try (have c10b1 : decide (t226 = t227) = true := by simpa using c10))
      (try (have c10b2 : (t226 == t227) = true := by simpa using c10))
      clear c10
      replace H := Option.bind_eq_some_iff.mp H
      obtain ⟨t228, A110, H⟩ := H
      have A11 := Aside0.mk A110
      clear A110
      replace H := Option.bind_eq_some_iff.mp H
      obtain ⟨t231, A120, H⟩ := H
      have A12 := Aside0.mk A120
      clear A120
      replace H := Option.bind_eq_some_iff.mp H
      obtain ⟨t234, A130, H⟩ := H
      have A13 := Aside0.mk A130
      clear A130
      by_cases c14 : t234 = true
      · subst c14
        rw [if_pos rfl] at H
        by_cases c15 : (t212 == t219 && (t213 == t220 && (t214 == t221 && (t215 == t222)))) = true
        · rw [if_pos c15] at H
          have c15b0 : (t212 == t219 && (t213 == t220 && (t214 == t221 && (t215 == t222)))) = true := c15
          (try (have c15b1 : decide (t212 = t219 && (t213 == t220 && (t214 == t221 && (t215 == t222)))) = true := by simpa using c15))
          (try (have c15b2 : (t212 == t219 && (t213 == t220 && (t214 == t221 && (t215 == t222)))) = true := by simpa using c15))
          clear c15
          by_cases c16 : t216 = t223
          · rw [if_pos c16] at H
            have c16b0 : (t216 == t223) = true := beq_iff_eq.mpr c16
            have c16b1 : (t216 != t223) = false := bne_eq_false_iff_eq.mpr c16
            clear c16
            by_cases c17 : t217 = t224
            · rw [if_pos c17] at H
              have c17b0 : (t217 == t224) = true := beq_iff_eq.mpr c17
              have c17b1 : (t217 != t224) = false := bne_eq_false_iff_eq.mpr c17
              clear c17
              replace H := Option.bind_eq_some_iff.mp H
              obtain ⟨t235, A180, H⟩ := H
              have A18 := Aside0.mk A180
              clear A180
              replace H := Option.bind_eq_some_iff.mp H
              obtain ⟨t238, A190, H⟩ := H
              have A19 := Aside0.mk A190
              clear A190
              replace H := Option.bind_eq_some_iff.mp H
              obtain ⟨t241, A200, H⟩ := H
              have A20 := Aside0.mk A200
              clear A200
              by_cases c21 : t241 = true
              · subst c21
                rw [if_pos rfl] at H
                replace H := Option.bind_eq_some_iff.mp H
                obtain ⟨t242, A220, H⟩ := H
                have A22 := Aside0.mk A220
                clear A220
                obtain rfl := Option.some.inj H
                go_enter Try.func3, Try.ntmps3
                go_wp2_with (first | ((with_reducible refine gate_callee (f := 9) rfl ?_); refine goesL_ (some 18) rfl rfl Try.func9 (by kernel_rfl) rfl #[.slice A0 l0.length c0, .int .i64 a1] rfl (by (try simp only [List.map_toArray, List.map_cons, List.map_nil]); first | done | rfl | (simp only [List.length_drop, List.length_take]; rfl)) ?_; (with_reducible refine (books_Get.calls k _ _ l0 a1 t212 t213 t214 t215 t216 t217 _ ?side1 ?side2 A6.out).mono ?_); (case side1 => repeat (first | exact HR0.out | (with_reducible refine Kd.C_alloc ?_ _) | (with_reducible refine Kd.C_drewN ?_ _) | (with_reducible refine Kd.C_drew ?_))); (case side2 => exact HC0.out); rintro e w23 ⟨rfl, hb⟩; refine ⟨_, rfl, ?_⟩; replace HB := Aside0.mk (below_step (bl HB) hb); (try clear hb); (try clear hb2); (try clear hk); (try clear hi)) | ((with_reducible refine gate_dst (N := 5) rfl ?_); refine box_event ?hg (N := 5) ?hd (cs := #[.int .i64 0, .int .i64 0, .int .i64 0, .int .i64 0]) (t := 25) ?hr ?_; (case hd => rfl); (case hg => rfl); (case hr => first | (go_simp; done) | (go_simp; rfl)); intro gb218 hg w24 hbox hb; have BK218 := Aside0.mk (hbox); have GW218 := Aside0.mk ((by rw [hg]; exact (below_size (bl HB)) : w.heap.size ≤ gb218)); have GE218 := Aside0.mk ((by rw [hg]; exact (below_size (bl HB)) : w.heap.size ≤ gb218)); replace HB := Aside0.mk (below_step (bl HB) hb); clear hb hbox hg; obtain ⟨hcz25_0, hcz25_1, hcz25_2, hcz25_3⟩ := ce4 BK218; obtain ⟨hfz25_0, hfz25_1, hfz25_2, hfz25_3⟩ := fr4 BK218) | ((with_reducible refine gate_store (t := 25) (p := 5) rfl ?_); refine store_event (t := 25) (p := 5) (v := ?vo_w26) (w1 := ((((w24.setCell ⟨gb218, 0, none⟩ (.int .i64 t212)).setCell ⟨gb218, 1, none⟩ (.int .i64 t213)).setCell ⟨gb218, 2, none⟩ (.int .i64 t214)).setCell ⟨gb218, 3, none⟩ (.int .i64 t215))) ?hg ?ho ?hn ?hr ?_; (case ho => rfl); (case hg => rfl); (case hn => rfl); (case hr => first | (go_simp; done) | (go_simp; rfl)); intro w26 hw; replace BK218 : Aside0 (w26.heap[gb218]? = some (.cells #[.int .i64 t212, .int .i64 t213, .int .i64 t214, .int .i64 t215] 25 (0, 0))) := ⟨(by rw [hw]; exact (by (with_reducible repeat (first | refine blk_drewN ?_ _ | refine blk_drew ?_ | refine blk_alloc ?_ _)); refine blk_put (cs := #[.int .i64 t212, .int .i64 t213, .int .i64 t214, .int .i64 0]) ?_ 3 _ rfl; (with_reducible repeat (first | refine blk_drewN ?_ _ | refine blk_drew ?_ | refine blk_alloc ?_ _)); refine blk_put (cs := #[.int .i64 t212, .int .i64 t213, .int .i64 0, .int .i64 0]) ?_ 2 _ rfl; (with_reducible repeat (first | refine blk_drewN ?_ _ | refine blk_drew ?_ | refine blk_alloc ?_ _)); refine blk_put (cs := #[.int .i64 t212, .int .i64 0, .int .i64 0, .int .i64 0]) ?_ 1 _ rfl; (with_reducible repeat (first | refine blk_drewN ?_ _ | refine blk_drew ?_ | refine blk_alloc ?_ _)); refine blk_put (cs := #[.int .i64 0, .int .i64 0, .int .i64 0, .int .i64 0]) ?_ 0 _ rfl; (with_reducible repeat (first | refine blk_drewN ?_ _ | refine blk_drew ?_ | refine blk_alloc ?_ _)); exact BK218.out))⟩; replace HB : Aside0 (Below w.heap.size w w26) := ⟨(by rw [hw]; exact (bl HB))⟩; clear hw) | ((with_reducible refine gate_callee (f := 10) rfl ?_); refine goesL_ (some 25) rfl rfl Try.func10 (by kernel_rfl) rfl #[.slice A0 l0.length c0, .int .i64 a1] rfl (by (try simp only [List.map_toArray, List.map_cons, List.map_nil]); first | done | rfl | (simp only [List.length_drop, List.length_take]; rfl)) ?_; (with_reducible refine (sandglassref16_Get.calls k _ _ l0 a1 t219 t220 t221 t222 t223 t224 _ ?side1 ?side2 A7.out).mono ?_); (case side1 => repeat (first | exact (Kd.C_below HR0.out HB.out) | (with_reducible refine Kd.C_alloc ?_ _) | (with_reducible refine Kd.C_drewN ?_ _) | (with_reducible refine Kd.C_drew ?_))); (case side2 => exact HC0.out); rintro e w27 ⟨rfl, hb⟩; refine ⟨_, rfl, ?_⟩; replace BK218 := Aside0.mk (blk_below (bo BK218) hb); replace HB := Aside0.mk (below_step (bl HB) hb); (try clear hb); (try clear hb2); (try clear hk); (try clear hi)) | ((with_reducible refine gate_dst (N := 8) rfl ?_); refine box_event ?hg (N := 8) ?hd (cs := #[.int .i64 0, .int .i64 0, .int .i64 0, .int .i64 0]) (t := 25) ?hr ?_; (case hd => rfl); (case hg => rfl); (case hr => first | (go_simp; done) | (go_simp; rfl)); intro gb225 hg w28 hbox hb; have BK225 := Aside0.mk (hbox); have GW225 := Aside0.mk ((by rw [hg]; exact (below_size (bl HB)) : w.heap.size ≤ gb225)); have GE225 := Aside0.mk ((by rw [hg]; exact (below_size (bl HB)) : w.heap.size ≤ gb225)); have NB218_225 := nb BK218 hg; have NB225_218 := bn BK218 hg; replace BK218 := Aside0.mk (blk_below (bo BK218) hb); replace HB := Aside0.mk (below_step (bl HB) hb); clear hb hbox hg; have hnb29 := NB225_218.out; have hnc29 := NB218_225.out; obtain ⟨hcz30_0, hcz30_1, hcz30_2, hcz30_3⟩ := ce4 BK225; obtain ⟨hfz30_0, hfz30_1, hfz30_2, hfz30_3⟩ := fr4 BK225) | ((with_reducible refine gate_store (t := 25) (p := 8) rfl ?_); refine store_event (t := 25) (p := 8) (v := ?vo_w31) (w1 := ((((w28.setCell ⟨gb225, 0, none⟩ (.int .i64 t219)).setCell ⟨gb225, 1, none⟩ (.int .i64 t220)).setCell ⟨gb225, 2, none⟩ (.int .i64 t221)).setCell ⟨gb225, 3, none⟩ (.int .i64 t222))) ?hg ?ho ?hn ?hr ?_; (case ho => rfl); (case hg => rfl); (case hn => rfl); (case hr => first | (go_simp; done) | (go_simp; rfl)); intro w31 hw; replace BK218 : Aside0 (w31.heap[gb218]? = some (.cells #[.int .i64 t212, .int .i64 t213, .int .i64 t214, .int .i64 t215] 25 (0, 0))) := ⟨(by rw [hw]; exact (by (with_reducible repeat (first | refine blk_drewN ?_ _ | refine blk_drew ?_ | refine blk_alloc ?_ _)); refine blk_far ?_ NB218_225.out _; (with_reducible repeat (first | refine blk_drewN ?_ _ | refine blk_drew ?_ | refine blk_alloc ?_ _)); refine blk_far ?_ NB218_225.out _; (with_reducible repeat (first | refine blk_drewN ?_ _ | refine blk_drew ?_ | refine blk_alloc ?_ _)); refine blk_far ?_ NB218_225.out _; (with_reducible repeat (first | refine blk_drewN ?_ _ | refine blk_drew ?_ | refine blk_alloc ?_ _)); refine blk_far ?_ NB218_225.out _; (with_reducible repeat (first | refine blk_drewN ?_ _ | refine blk_drew ?_ | refine blk_alloc ?_ _)); exact BK218.out))⟩; replace BK225 : Aside0 (w31.heap[gb225]? = some (.cells #[.int .i64 t219, .int .i64 t220, .int .i64 t221, .int .i64 t222] 25 (0, 0))) := ⟨(by rw [hw]; exact (by (with_reducible repeat (first | refine blk_drewN ?_ _ | refine blk_drew ?_ | refine blk_alloc ?_ _)); refine blk_put (cs := #[.int .i64 t219, .int .i64 t220, .int .i64 t221, .int .i64 0]) ?_ 3 _ rfl; (with_reducible repeat (first | refine blk_drewN ?_ _ | refine blk_drew ?_ | refine blk_alloc ?_ _)); refine blk_put (cs := #[.int .i64 t219, .int .i64 t220, .int .i64 0, .int .i64 0]) ?_ 2 _ rfl; (with_reducible repeat (first | refine blk_drewN ?_ _ | refine blk_drew ?_ | refine blk_alloc ?_ _)); refine blk_put (cs := #[.int .i64 t219, .int .i64 0, .int .i64 0, .int .i64 0]) ?_ 1 _ rfl; (with_reducible repeat (first | refine blk_drewN ?_ _ | refine blk_drew ?_ | refine blk_alloc ?_ _)); refine blk_put (cs := #[.int .i64 0, .int .i64 0, .int .i64 0, .int .i64 0]) ?_ 0 _ rfl; (with_reducible repeat (first | refine blk_drewN ?_ _ | refine blk_drew ?_ | refine blk_alloc ?_ _)); exact BK225.out))⟩; replace HB : Aside0 (Below w.heap.size w w31) := ⟨(by rw [hw]; exact (bl HB))⟩; clear hw) | ((with_reducible refine gate_callee (f := 11) rfl ?_); refine goesL_ (some 30) rfl rfl Try.func11 (by kernel_rfl) rfl #[.slice A0 l0.length c0] rfl (by (try simp only [List.map_toArray, List.map_cons, List.map_nil]); first | done | rfl | (simp only [List.length_drop, List.length_take]; rfl)) ?_; (with_reducible refine (books_May.calls k _ _ l0 t226 _ ?side1 ?side2 A8.out).mono ?_); (case side1 => repeat (first | exact (Kd.C_below HR0.out HB.out) | (with_reducible refine Kd.C_alloc ?_ _) | (with_reducible refine Kd.C_drewN ?_ _) | (with_reducible refine Kd.C_drew ?_))); (case side2 => exact HC0.out); rintro e w32 ⟨rfl, hb⟩; refine ⟨_, rfl, ?_⟩; replace BK218 := Aside0.mk (blk_below (bo BK218) hb); replace BK225 := Aside0.mk (blk_below (bo BK225) hb); replace HB := Aside0.mk (below_step (bl HB) hb); (try clear hb); (try clear hb2); (try clear hk); (try clear hi)) | ((with_reducible refine gate_callee (f := 12) rfl ?_); refine goesL_ (some 32) rfl rfl Try.func12 (by kernel_rfl) rfl #[.slice A0 l0.length c0] rfl (by (try simp only [List.map_toArray, List.map_cons, List.map_nil]); first | done | rfl | (simp only [List.length_drop, List.length_take]; rfl)) ?_; (with_reducible refine (sandglassref16_May.calls k _ _ l0 t227 _ ?side1 ?side2 A9.out).mono ?_); (case side1 => repeat (first | exact (Kd.C_below HR0.out HB.out) | (with_reducible refine Kd.C_alloc ?_ _) | (with_reducible refine Kd.C_drewN ?_ _) | (with_reducible refine Kd.C_drew ?_))); (case side2 => exact HC0.out); rintro e w33 ⟨rfl, hb⟩; refine ⟨_, rfl, ?_⟩; replace BK218 := Aside0.mk (blk_below (bo BK218) hb); replace BK225 := Aside0.mk (blk_below (bo BK225) hb); replace HB := Aside0.mk (below_step (bl HB) hb); (try clear hb); (try clear hb2); (try clear hk); (try clear hi)) | (go_at_call 14; (with_reducible refine (books_Live.calls k _ _ l0 t228 _ ?side1 ?side2 A11.out).mono ?_); (case side1 => repeat (first | exact (Kd.C_below HR0.out HB.out) | (with_reducible refine Kd.C_alloc ?_ _) | (with_reducible refine Kd.C_drewN ?_ _) | (with_reducible refine Kd.C_drew ?_))); (case side2 => exact HC0.out); rintro e w34 ⟨v229, rfl, ho0, hb⟩; have HO230 := Aside0.mk (Kd.R_lower ho0 (below_size (bl HB))); replace BK218 := Aside0.mk (blk_below (bo BK218) hb); replace BK225 := Aside0.mk (blk_below (bo BK225) hb); replace HB := Aside0.mk (below_step (bl HB) hb); (try clear hb); (try clear hb2); (try clear hk); (try clear hi); (try clear ho0)) | (go_at_call 15; (with_reducible refine (sandglassref16_Live.calls k _ _ l0 t231 _ ?side1 ?side2 A12.out).mono ?_); (case side1 => repeat (first | exact (Kd.C_below HR0.out HB.out) | (with_reducible refine Kd.C_alloc ?_ _) | (with_reducible refine Kd.C_drewN ?_ _) | (with_reducible refine Kd.C_drew ?_))); (case side2 => exact HC0.out); rintro e w35 ⟨v232, rfl, ho0, hb⟩; have HO233 := Aside0.mk (Kd.R_lower (Kd.R_new' ho0 (Kd.R_lt (by (with_reducible repeat (first | apply Kd.R_alloc | apply Kd.R_drewN | apply Kd.R_drew)); exact HO230.out))) (below_size (bl HB))); replace HO230 := Aside0.mk (Kd.R_elder' (by (with_reducible repeat (first | apply Kd.R_alloc | apply Kd.R_drewN | apply Kd.R_drew)); exact HO230.out) (Kd.R_base ho0) hb); replace BK218 := Aside0.mk (blk_below (bo BK218) hb); replace BK225 := Aside0.mk (blk_below (bo BK225) hb); replace HB := Aside0.mk (below_step (bl HB) hb); (try clear hb); (try clear hb2); (try clear hk); (try clear hi); (try clear ho0); obtain ⟨Ao36, co36, eo36⟩ := Kd.R_slice HO230.out; subst eo36; obtain ⟨Ao37, co37, eo37⟩ := Kd.R_slice HO233.out; subst eo37) | (go_at_call 13; (with_reducible refine (sandglassref04_Ints.calls k _ _ t228 _ _ t231 true _ ?side1 ?side2 ?side3 ?side4 A13.out).mono ?_); (case side1 => repeat (first | exact (Kd.R_reads' HO230.out).2.2 | (with_reducible refine Kd.C_alloc ?_ _) | (with_reducible refine Kd.C_drewN ?_ _) | (with_reducible refine Kd.C_drew ?_))); (case side2 => exact (Kd.R_reads' HO230.out).2.1); (case side3 => repeat (first | exact (Kd.R_reads' HO233.out).2.2 | (with_reducible refine Kd.C_alloc ?_ _) | (with_reducible refine Kd.C_drewN ?_ _) | (with_reducible refine Kd.C_drew ?_))); (case side4 => exact (Kd.R_reads' HO233.out).2.1); rintro e w' ⟨rfl, ⟨nd, rfl⟩⟩; obtain ⟨hcz38_0, hcz38_1, hcz38_2, hcz38_3⟩ := ce4 BK218; obtain ⟨hfz38_0, hfz38_1, hfz38_2, hfz38_3⟩ := fr4 BK218; obtain ⟨hcz39_0, hcz39_1, hcz39_2, hcz39_3⟩ := ce4 BK225; obtain ⟨hfz39_0, hfz39_1, hfz39_2, hfz39_3⟩ := fr4 BK225) | (go_at_call 17; (with_reducible refine (books_New.calls  t235 _ A18.out).mono ?_); rintro e w40 ⟨v236, rfl, ho0, hb⟩; have HO237 := Aside0.mk (Kd.R_lower ho0 (below_size (bl HB))); replace HO230 := Aside0.mk (Kd.R_below (by (with_reducible repeat (first | apply Kd.R_alloc | apply Kd.R_drewN | apply Kd.R_drew)); exact HO230.out) hb); replace HO233 := Aside0.mk (Kd.R_below (by (with_reducible repeat (first | apply Kd.R_alloc | apply Kd.R_drewN | apply Kd.R_drew)); exact HO233.out) hb); replace BK218 := Aside0.mk (blk_below (bo BK218) hb); replace BK225 := Aside0.mk (blk_below (bo BK225) hb); replace HB := Aside0.mk (below_step (bl HB) hb); (try clear hb); (try clear hb2); (try clear hk); (try clear hi); (try clear ho0)) | (go_at_call 18; (with_reducible refine (sandglassref16_New.calls  t238 _ A19.out).mono ?_); rintro e w41 ⟨v239, rfl, ho0, hb⟩; have HO240 := Aside0.mk (Kd.R_lower (Kd.R_new' ho0 (Kd.R_lt (by (with_reducible repeat (first | apply Kd.R_alloc | apply Kd.R_drewN | apply Kd.R_drew)); exact HO237.out))) (below_size (bl HB))); replace HO230 := Aside0.mk (Kd.R_below (by (with_reducible repeat (first | apply Kd.R_alloc | apply Kd.R_drewN | apply Kd.R_drew)); exact HO230.out) hb); replace HO233 := Aside0.mk (Kd.R_below (by (with_reducible repeat (first | apply Kd.R_alloc | apply Kd.R_drewN | apply Kd.R_drew)); exact HO233.out) hb); replace HO237 := Aside0.mk (Kd.R_elder' (by (with_reducible repeat (first | apply Kd.R_alloc | apply Kd.R_drewN | apply Kd.R_drew)); exact HO237.out) (Kd.R_base ho0) hb); replace BK218 := Aside0.mk (blk_below (bo BK218) hb); replace BK225 := Aside0.mk (blk_below (bo BK225) hb); replace HB := Aside0.mk (below_step (bl HB) hb); (try clear hb); (try clear hb2); (try clear hk); (try clear hi); (try clear ho0); obtain ⟨Ao42, co42, eo42⟩ := Kd.R_slice HO237.out; subst eo42; obtain ⟨Ao43, co43, eo43⟩ := Kd.R_slice HO240.out; subst eo43) | (go_at_call 16; (with_reducible refine (sandglassref16_Same.calls k _ _ t235 _ _ t238 true _ ?side1 ?side2 ?side3 ?side4 A20.out).mono ?_); (case side1 => repeat (first | exact (Kd.R_reads' HO237.out).2.2 | (with_reducible refine Kd.C_alloc ?_ _) | (with_reducible refine Kd.C_drewN ?_ _) | (with_reducible refine Kd.C_drew ?_))); (case side2 => exact (Kd.R_reads' HO237.out).2.1); (case side3 => repeat (first | exact (Kd.R_reads' HO240.out).2.2 | (with_reducible refine Kd.C_alloc ?_ _) | (with_reducible refine Kd.C_drewN ?_ _) | (with_reducible refine Kd.C_drew ?_))); (case side4 => exact (Kd.R_reads' HO240.out).2.1); rintro e w' ⟨rfl, ⟨nd, rfl⟩⟩) | (go_at_call 8; (with_reducible refine (sandglasslaw16_live.calls k  t242 _ A22.out).mono ?_); rintro e w44 ⟨rfl, hb⟩; replace HO230 := Aside0.mk (Kd.R_below (by (with_reducible repeat (first | apply Kd.R_alloc | apply Kd.R_drewN | apply Kd.R_drew)); exact HO230.out) hb); replace HO233 := Aside0.mk (Kd.R_below (by (with_reducible repeat (first | apply Kd.R_alloc | apply Kd.R_drewN | apply Kd.R_drew)); exact HO233.out) hb); replace HO237 := Aside0.mk (Kd.R_below (by (with_reducible repeat (first | apply Kd.R_alloc | apply Kd.R_drewN | apply Kd.R_drew)); exact HO237.out) hb); replace HO240 := Aside0.mk (Kd.R_below (by (with_reducible repeat (first | apply Kd.R_alloc | apply Kd.R_drewN | apply Kd.R_drew)); exact HO240.out) hb); replace BK218 := Aside0.mk (blk_below (bo BK218) hb); replace BK225 := Aside0.mk (blk_below (bo BK225) hb); replace HB := Aside0.mk (below_step (bl HB) hb); (try clear hb); (try clear hb2); (try clear hk); (try clear hi)))
                go_ret
                exact ⟨by first | (with_reducible rfl) | rfl | (simp [errW_none, errW_some] <;> rfl) | (simp [*, errW_none, errW_some] <;> rfl), bl HB⟩
              · replace c21 := Bool.eq_false_iff.mpr c21
                subst c21
                rw [if_neg (show ¬ (false = true) by decide)] at H
                exact absurd H (by simp)
            · rw [if_neg c17] at H
              exact absurd H (by simp)
          · rw [if_neg c16] at H
            exact absurd H (by simp)
        · rw [if_neg c15] at H
          exact absurd H (by simp)
      · replace c14 := Bool.eq_false_iff.mpr c14
        subst c14
        rw [if_neg (show ¬ (false = true) by decide)] at H
        exact absurd H (by simp)
    · rw [if_neg c10] at H
      exact absurd H (by simp)

end Go.Proofs.Ythplifnhibahpaa.Q
