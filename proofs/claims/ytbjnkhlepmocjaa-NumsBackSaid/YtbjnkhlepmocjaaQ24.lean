-- Laid by wip/tools/hprint.py, a program of this repo, over the kit's print; not a text of print.sh.
import Derived.Test.YtbjnkhlepmocjaaQ0
import Derived.Test.YtbjnkhlepmocjaaQ11
import Derived.Test.YtbjnkhlepmocjaaQ12
import Derived.Test.YtbjnkhlepmocjaaQ13
import Derived.Test.YtbjnkhlepmocjaaQ14
import Derived.Test.YtbjnkhlepmocjaaQ15
namespace Go.Proofs.Ytbjnkhlepmocjaa.Q
open Go.RowKit Go.Proofs.Ytbjnkhlepmocjaa.Zip Go.Proofs.YtbjnkhlepmocjaaW.PrintWords Go.Proofs.YtbjnkhlepmocjaaW.PrintLast Go.Proofs.YtbjnkhlepmocjaaW.PrintMore
attribute [local go_sem] max2_int min2_int max_two min_two max_three min_three max_four min_four   -- for this text's walks alone
set_option linter.unusedVariables false
set_option linter.unusedSimpArgs false

theorem wr_in {x : Int} (h0 : -9223372036854775808 ≤ x) (h1 : x < 9223372036854775808) : wrap64 x = x := by unfold wrap64; omega
/-! ### sandglasslaw02_NumsBack: function 6 -/
mutual
def sandglasslaw02_NumsBack.j0 : Nat → Int → Int → Bool → ByteArray → ByteArray → Option (Bool)
  | 0, _, _, _, _, _ => none
  | k + 1, x0, x1, x26, x191000, x191001 => if x26 = true then ((sandglasslaw02_live.f k).bind fun t191 => (some t191)) else ((nums_Wide.f k x0 x1).bind fun t192 => (if x191000.size + t192.size ≤ 9223372036854775807 then (if (x191000 ++ t192).size + x191001.size ≤ 9223372036854775807 then ((nums_Number.f ((x191000 ++ t192) ++ x191001) (x191000.size : Int) x1).bind fun bt193 => (if x1 < 0 then (sandglasslaw02_NumsBack.j1 k x0 x1 t192 bt193.1 bt193.2.1 bt193.2.2 true x191000 x191001) else (sandglasslaw02_NumsBack.j1 k x0 x1 t192 bt193.1 bt193.2.1 bt193.2.2 (decide (x1 > 8)) x191000 x191001))) else (none)) else (none)))
def sandglasslaw02_NumsBack.j1 : Nat → Int → Int → ByteArray → Int → Int → Int → Bool → ByteArray → ByteArray → Option (Bool)
  | 0, _, _, _, _, _, _, _, _, _ => none
  | k + 1, x0, x1, x7, x8, x9, x10, x52, x191000, x191001 => if x52 = true then (if x7.toList = ([] : List UInt8) then (if x10 = 1 then ((sandglasslaw02_live.f k).bind fun t196 => (some t196)) else (none)) else (none)) else (if x1 < 8 then (if 0 ≤ (IntKind.u64.wrap (wrap64 (8 * x1))) then (sandglasslaw02_NumsBack.j2 k x1 x7 x8 x9 x10 (Go.bits .and .u64 x0 (IntKind.u64.wrap ((shl .u64 1 (IntKind.u64.wrap (wrap64 (8 * x1)))) - 1))) x191000 x191001) else (none)) else (sandglasslaw02_NumsBack.j2 k x1 x7 x8 x9 x10 x0 x191000 x191001))
def sandglasslaw02_NumsBack.j2 : Nat → Int → ByteArray → Int → Int → Int → Int → ByteArray → ByteArray → Option (Bool)
  | 0, _, _, _, _, _, _, _, _ => none
  | k + 1, x1, x7, x8, x9, x10, x11, x191000, x191001 => if x8 = x11 then (if x9 = (wrap64 ((x191000.size : Int) + x1)) then (if x10 = 0 then (sandglasslaw02_NumsBack.j3 k ((x7.size : Int) != x1) x191000 x191001) else (sandglasslaw02_NumsBack.j3 k true x191000 x191001)) else (sandglasslaw02_NumsBack.j3 k true x191000 x191001)) else (sandglasslaw02_NumsBack.j3 k true x191000 x191001)
def sandglasslaw02_NumsBack.j3 : Nat → Bool → ByteArray → ByteArray → Option (Bool)
  | 0, _, _, _ => none
  | k + 1, x93, x191000, x191001 => if x93 = true then (none) else ((nums_Put.f x191001).bind fun bt197 => (if x191000.size + bt197.1.size ≤ 9223372036854775807 then (if (x191000 ++ bt197.1).size + x191000.size ≤ 9223372036854775807 then ((nums_Text.f ((x191000 ++ bt197.1) ++ x191000) (x191000.size : Int)).bind fun bt199 => (if bt197.2 = true then (if bt199.1.toList = x191001.toList then (if bt199.2.1 = (wrap64 ((x191000.size : Int) + (bt197.1.size : Int))) then (if bt199.2.2 = 0 then (if (bt197.1.size : Int) = (wrap64 ((x191001.size : Int) + 1)) then ((sandglasslaw02_live.f k).bind fun t203 => (some t203)) else (none)) else (none)) else (none)) else (none)) else (if (x191001.size : Int) > 255 then (if bt197.1.toList = ([] : List UInt8) then ((sandglasslaw02_live.f k).bind fun t202 => (some t202)) else (none)) else (none)))) else (none)) else (none)))
end
def sandglasslaw02_NumsBack.f (k : Nat) (a0 : Int) (a1 : Int) (a2_0 : ByteArray) (a2_1 : ByteArray) : Option (Bool) := if (a2_0.size : Int) > 300 then (sandglasslaw02_NumsBack.j0 k a0 a1 true a2_0 a2_1) else (sandglasslaw02_NumsBack.j0 k a0 a1 (decide ((a2_1.size : Int) > 300)) a2_0 a2_1)
theorem sandglasslaw02_NumsBack.mono_l : ∀ k, (∀ y0 y1 y2 y3 y4, LeO (sandglasslaw02_NumsBack.j0 k y0 y1 y2 y3 y4) (sandglasslaw02_NumsBack.j0 (k + 1) y0 y1 y2 y3 y4)) ∧ (∀ y0 y1 y2 y3 y4 y5 y6 y7 y8, LeO (sandglasslaw02_NumsBack.j1 k y0 y1 y2 y3 y4 y5 y6 y7 y8) (sandglasslaw02_NumsBack.j1 (k + 1) y0 y1 y2 y3 y4 y5 y6 y7 y8)) ∧ (∀ y0 y1 y2 y3 y4 y5 y6 y7, LeO (sandglasslaw02_NumsBack.j2 k y0 y1 y2 y3 y4 y5 y6 y7) (sandglasslaw02_NumsBack.j2 (k + 1) y0 y1 y2 y3 y4 y5 y6 y7)) ∧ (∀ y0 y1 y2, LeO (sandglasslaw02_NumsBack.j3 k y0 y1 y2) (sandglasslaw02_NumsBack.j3 (k + 1) y0 y1 y2))
  | 0 => ⟨fun _ _ _ _ _ r h => by simp [sandglasslaw02_NumsBack.j0] at h, fun _ _ _ _ _ _ _ _ _ r h => by simp [sandglasslaw02_NumsBack.j1] at h, fun _ _ _ _ _ _ _ _ r h => by simp [sandglasslaw02_NumsBack.j2] at h, fun _ _ _ r h => by simp [sandglasslaw02_NumsBack.j3] at h⟩
  | k + 1 => by
    obtain ⟨ih0, ih1, ih2, ih3⟩ := sandglasslaw02_NumsBack.mono_l k
    refine ⟨?_, ?_, ?_, ?_⟩
    · intro y0 y1 y2 y3 y4
      unfold sandglasslaw02_NumsBack.j0
      repeat' first
      | (with_reducible exact ih0 _ _ _ _ _)
      | (with_reducible exact ih1 _ _ _ _ _ _ _ _ _)
      | (with_reducible exact ih2 _ _ _ _ _ _ _ _)
      | (with_reducible exact ih3 _ _ _)
      | (with_reducible exact nums_Wide.mono _ _ _)
      | (with_reducible exact sandglasslaw02_live.mono _)
      | (with_reducible exact LeO.refl _)
      | (with_reducible exact LeO.none _)
      | (with_reducible refine LeO.ite ?_ ?_)
      | (with_reducible refine LeO.bind ?_ (fun _ => ?_))
      | exact ih0 _ _ _ _ _
      | exact ih1 _ _ _ _ _ _ _ _ _
      | exact ih2 _ _ _ _ _ _ _ _
      | exact ih3 _ _ _
      | exact nums_Wide.mono _ _ _
      | exact sandglasslaw02_live.mono _
      | exact LeO.none _
      | refine LeO.ite ?_ ?_
      | refine LeO.bind ?_ (fun _ => ?_)
    · intro y0 y1 y2 y3 y4 y5 y6 y7 y8
      unfold sandglasslaw02_NumsBack.j1
      repeat' first
      | (with_reducible exact ih0 _ _ _ _ _)
      | (with_reducible exact ih1 _ _ _ _ _ _ _ _ _)
      | (with_reducible exact ih2 _ _ _ _ _ _ _ _)
      | (with_reducible exact ih3 _ _ _)
      | (with_reducible exact nums_Wide.mono _ _ _)
      | (with_reducible exact sandglasslaw02_live.mono _)
      | (with_reducible exact LeO.refl _)
      | (with_reducible exact LeO.none _)
      | (with_reducible refine LeO.ite ?_ ?_)
      | (with_reducible refine LeO.bind ?_ (fun _ => ?_))
      | exact ih0 _ _ _ _ _
      | exact ih1 _ _ _ _ _ _ _ _ _
      | exact ih2 _ _ _ _ _ _ _ _
      | exact ih3 _ _ _
      | exact nums_Wide.mono _ _ _
      | exact sandglasslaw02_live.mono _
      | exact LeO.none _
      | refine LeO.ite ?_ ?_
      | refine LeO.bind ?_ (fun _ => ?_)
    · intro y0 y1 y2 y3 y4 y5 y6 y7
      unfold sandglasslaw02_NumsBack.j2
      repeat' first
      | (with_reducible exact ih0 _ _ _ _ _)
      | (with_reducible exact ih1 _ _ _ _ _ _ _ _ _)
      | (with_reducible exact ih2 _ _ _ _ _ _ _ _)
      | (with_reducible exact ih3 _ _ _)
      | (with_reducible exact nums_Wide.mono _ _ _)
      | (with_reducible exact sandglasslaw02_live.mono _)
      | (with_reducible exact LeO.refl _)
      | (with_reducible exact LeO.none _)
      | (with_reducible refine LeO.ite ?_ ?_)
      | (with_reducible refine LeO.bind ?_ (fun _ => ?_))
      | exact ih0 _ _ _ _ _
      | exact ih1 _ _ _ _ _ _ _ _ _
      | exact ih2 _ _ _ _ _ _ _ _
      | exact ih3 _ _ _
      | exact nums_Wide.mono _ _ _
      | exact sandglasslaw02_live.mono _
      | exact LeO.none _
      | refine LeO.ite ?_ ?_
      | refine LeO.bind ?_ (fun _ => ?_)
    · intro y0 y1 y2
      unfold sandglasslaw02_NumsBack.j3
      repeat' first
      | (with_reducible exact ih0 _ _ _ _ _)
      | (with_reducible exact ih1 _ _ _ _ _ _ _ _ _)
      | (with_reducible exact ih2 _ _ _ _ _ _ _ _)
      | (with_reducible exact ih3 _ _ _)
      | (with_reducible exact nums_Wide.mono _ _ _)
      | (with_reducible exact sandglasslaw02_live.mono _)
      | (with_reducible exact LeO.refl _)
      | (with_reducible exact LeO.none _)
      | (with_reducible refine LeO.ite ?_ ?_)
      | (with_reducible refine LeO.bind ?_ (fun _ => ?_))
      | exact ih0 _ _ _ _ _
      | exact ih1 _ _ _ _ _ _ _ _ _
      | exact ih2 _ _ _ _ _ _ _ _
      | exact ih3 _ _ _
      | exact nums_Wide.mono _ _ _
      | exact sandglasslaw02_live.mono _
      | exact LeO.none _
      | refine LeO.ite ?_ ?_
      | refine LeO.bind ?_ (fun _ => ?_)
theorem sandglasslaw02_NumsBack.mono : ∀ a0 a1 a2 a3 k, LeO (sandglasslaw02_NumsBack.f k a0 a1 a2 a3) (sandglasslaw02_NumsBack.f (k + 1) a0 a1 a2 a3) := by
  intro a0 a1 a2 a3 k
  obtain ⟨ih0, ih1, ih2, ih3⟩ := sandglasslaw02_NumsBack.mono_l k
  unfold sandglasslaw02_NumsBack.f
  repeat' first
      | (with_reducible exact ih0 _ _ _ _ _)
      | (with_reducible exact ih1 _ _ _ _ _ _ _ _ _)
      | (with_reducible exact ih2 _ _ _ _ _ _ _ _)
      | (with_reducible exact ih3 _ _ _)
      | (with_reducible exact nums_Wide.mono _ _ _)
      | (with_reducible exact sandglasslaw02_live.mono _)
      | (with_reducible exact LeO.refl _)
      | (with_reducible exact LeO.none _)
      | (with_reducible refine LeO.ite ?_ ?_)
      | (with_reducible refine LeO.bind ?_ (fun _ => ?_))
      | exact ih0 _ _ _ _ _
      | exact ih1 _ _ _ _ _ _ _ _ _
      | exact ih2 _ _ _ _ _ _ _ _
      | exact ih3 _ _ _
      | exact nums_Wide.mono _ _ _
      | exact sandglasslaw02_live.mono _
      | exact LeO.none _
      | refine LeO.ite ?_ ?_
      | refine LeO.bind ?_ (fun _ => ?_)
set_option maxHeartbeats 8000000 in
set_option maxRecDepth 100000 in
theorem sandglasslaw02_NumsBack.calls (k : Nat) (a0 : Int) (a1 : Int) (a2_0 : ByteArray) (a2_1 : ByteArray) (r : Bool) (w : World) (h : sandglasslaw02_NumsBack.f k a0 a1 a2_0 a2_1 = some r) :
    Calls Try.prog 6 #[.int .u64 a0, .int .i64 a1, .agg #[.string a2_0, .string a2_1]] w fun e w' => e = .returned (.bool r) ∧ Below w.heap.size w w' := by
  have hu40 := Try.underlying40
  have HB := Aside0.mk (Below.refl w.heap.size w)
  have H : (if (a2_0.size : Int) > 300 then (sandglasslaw02_NumsBack.j0 k a0 a1 true a2_0 a2_1) else (sandglasslaw02_NumsBack.j0 k a0 a1 (decide ((a2_1.size : Int) > 300)) a2_0 a2_1)) = some r := h
  clear h
  have HC4 := Aside0.mk H
  clear H
  go_enter Try.func6, Try.ntmps6
  go_upto_region 1 with (first | ((with_reducible refine gate_dst (N := 5) rfl ?_); (try (refine gate_guard (by rfl) ?_; dsimp only)); refine box_event ?hg (N := 5) ?hd (cs := #[.string a2_0, .string a2_1]) (t := 40) ?hr ?_; (case hd => rfl); (case hg => rfl); (case hr => first | (go_simp; done) | (go_simp; rfl)); intro gb190 hg w5 hbox hb; have BK190 := Aside0.mk (hbox); have GW190 := Aside0.mk ((by rw [hg]; exact (below_size (bl HB)) : w.heap.size ≤ gb190)); have GE190 := Aside0.mk ((by rw [hg]; exact (below_size (bl HB)) : w.heap.size ≤ gb190)); replace HB := Aside0.mk (below_step (bl HB) hb); clear hb hbox hg))
  (try simp only [Act.put, List.setIfInBounds_toArray, List.set_cons_zero, List.set_cons_succ])
  go_cut [26] (fun v26 wc => ∃ (kq : Nat) (x26_3 : Bool), v26 = .bool x26_3 ∧ Aside0 (sandglasslaw02_NumsBack.j0 kq a0 a1 x26_3 a2_0 a2_1 = some r) ∧ Aside0 (kq ≤ k) ∧ Aside0 (wc.heap[gb190]? = some (.cells #[.string a2_0, .string a2_1] 40 (0, 0))) ∧ Aside0 (Below w.heap.size w wc))
  case first =>
    have H := HC4.out
    clear HC4
    by_cases c6 : (a2_0.size : Int) > 300
    · rw [if_pos c6] at H
      have c6b0 : decide (300 < (a2_0.size : Int)) = true := decide_eq_true c6
      have c6b1 : decide (300 < a2_0.size) = true := decide_eq_true (by omega)
      clear c6
      (first | rw [c6b0] | (simp only [i64_w, i32_w]; rw [c6b0]) | skip)
      have H' := Aside0.mk H
      clear H
      obtain ⟨hcz7_0, hcz7_1⟩ := ce2 BK190
      obtain ⟨hfz7_0, hfz7_1⟩ := fr2 BK190
      go_wp2
      go_meet
      case rel => exact ⟨_, (true), (by first | (with_reducible rfl) | rfl | (simp; done) | (simp [*]; done)), H', ⟨by first | omega | exact Nat.le_refl _⟩, ⟨bo BK190⟩, ⟨bl HB⟩⟩
    · rw [if_neg c6] at H
      have c6b0 : decide (300 < (a2_0.size : Int)) = false := decide_eq_false c6
      have c6b1 : decide (300 < a2_0.size) = false := decide_eq_false (by omega)
      clear c6
      (first | rw [c6b0] | (simp only [i64_w, i32_w]; rw [c6b0]) | skip)
      have H' := Aside0.mk H
      clear H
      obtain ⟨hcz8_0, hcz8_1⟩ := ce2 BK190
      obtain ⟨hfz8_0, hfz8_1⟩ := fr2 BK190
      go_wp2
      go_meet
      case rel => exact ⟨_, (decide ((a2_1.size : Int) > 300)), (by first | (with_reducible rfl) | rfl | (simp; done) | (simp [*]; done)), H', ⟨by first | omega | exact Nat.le_refl _⟩, ⟨bo BK190⟩, ⟨bl HB⟩⟩
  case rest =>
    clear HC4
    try clear p2
    try clear c6
    try clear c6b0
    try clear c6b1
    try clear hcz7_0
    try clear hcz7_1
    try clear hcz8_0
    try clear hcz8_1
    try clear hfz7_0
    try clear hfz7_1
    try clear hfz8_0
    try clear hfz8_1
    obtain ⟨kq, x26_3, rfl, HA, HJ3, BK190, HB⟩ := hcut
    cases kq with
    | zero => exact absurd HA.out (by simp [sandglasslaw02_NumsBack.j0])
    | succ kj3 =>
      have H := HA.out
      clear HA
      simp only [sandglasslaw02_NumsBack.j0] at H
      by_cases c9 : x26_3 = true
      · subst c9
        rw [if_pos rfl] at H
        replace H := Option.bind_eq_some_iff.mp H
        obtain ⟨t191, A100, H⟩ := H
        have A10 := Aside0.mk A100
        clear A100
        obtain rfl := Option.some.inj H
        go_wp2_with (first | ((with_reducible refine gate_callee (f := 17) rfl ?_); refine goesL_ (some 27) rfl rfl Try.func17 (by kernel_rfl) rfl #[] rfl (by (try simp only [List.map_toArray, List.map_cons, List.map_nil]); first | done | rfl | (simp only [List.length_drop, List.length_take]; rfl)) ?_; (with_reducible refine (sandglasslaw02_live.calls kj3  t191 _ A10.out).mono ?_); rintro e w11 ⟨rfl, hb⟩; refine ⟨_, rfl, ?_⟩; replace BK190 := Aside0.mk (blk_below (bo BK190) hb); replace HB := Aside0.mk (below_step (bl HB) hb); (try clear hb); (try clear hb2); (try clear hk); (try clear hi)))
        go_ret
        exact ⟨by first | (with_reducible rfl) | rfl | (simp [errW_none, errW_some] <;> rfl) | (simp [*, errW_none, errW_some] <;> rfl), bl HB⟩
      · replace c9 := Bool.eq_false_iff.mpr c9
        subst c9
        rw [if_neg (show ¬ (false = true) by decide)] at H
        replace H := Option.bind_eq_some_iff.mp H
        obtain ⟨t192, A120, H⟩ := H
        have A12 := Aside0.mk A120
        clear A120
        by_cases c13 : a2_0.size + t192.size ≤ 9223372036854775807
        · rw [if_pos c13] at H
          have c13b0 := eq_true c13
          have c13b1 : decide (a2_0.size + t192.size ≤ 9223372036854775807) = true := decide_eq_true c13
          try have c13b2 : (9223372036854775807 < a2_0.size + t192.size) = False := eq_false (Nat.not_lt.2 c13)
          by_cases c14 : (a2_0 ++ t192).size + a2_1.size ≤ 9223372036854775807
          · rw [if_pos c14] at H
            have c14b0 := eq_true c14
            have c14b1 : decide ((a2_0 ++ t192).size + a2_1.size ≤ 9223372036854775807) = true := decide_eq_true c14
            try have c14b2 : (9223372036854775807 < (a2_0 ++ t192).size + a2_1.size) = False := eq_false (Nat.not_lt.2 c14)
            replace H := Option.bind_eq_some_iff.mp H
            obtain ⟨⟨t193, t194, t195⟩, A150, H⟩ := H
            have A15 := Aside0.mk A150
            clear A150
            have HC16 := Aside0.mk H
            clear H
            go_upto_region 5 with (first | ((with_reducible refine gate_callee (f := 22) rfl ?_); refine goesL_ (some 30) rfl rfl Try.func22 (by kernel_rfl) rfl #[.int .u64 a0, .int .i64 a1] rfl (by (try simp only [List.map_toArray, List.map_cons, List.map_nil]); first | done | rfl | (simp only [List.length_drop, List.length_take]; rfl)) ?_; (with_reducible refine (nums_Wide.calls kj3 a0 a1 t192 _ A12.out).mono ?_); rintro e w17 ⟨rfl, hb⟩; refine ⟨_, rfl, ?_⟩; replace BK190 := Aside0.mk (blk_below (bo BK190) hb); replace HB := Aside0.mk (below_step (bl HB) hb); (try clear hb); (try clear hb2); (try clear hk); (try clear hi); obtain ⟨hcz18_0, hcz18_1⟩ := ce2 BK190; obtain ⟨hfz18_0, hfz18_1⟩ := fr2 BK190) | ((with_reducible refine gate_callee (f := 20) rfl ?_); refine goesL_ (some 43) rfl rfl Try.func20 (by kernel_rfl) rfl #[.string ((a2_0 ++ t192) ++ a2_1), .int .i64 (a2_0.size : Int), .int .i64 a1] rfl (by (try simp only [List.map_toArray, List.map_cons, List.map_nil]); first | done | rfl | (simp only [List.length_drop, List.length_take]; rfl)) ?_; (with_reducible refine (nums_Number.calls ((a2_0 ++ t192) ++ a2_1) (a2_0.size : Int) a1 t193 t194 t195 _ A15.out).mono ?_); rintro e w19 ⟨rfl, hb⟩; refine ⟨_, rfl, ?_⟩; replace BK190 := Aside0.mk (blk_below (bo BK190) hb); replace HB := Aside0.mk (below_step (bl HB) hb); (try clear hb); (try clear hb2); (try clear hk); (try clear hi)))
            (try simp only [Act.put, List.setIfInBounds_toArray, List.set_cons_zero, List.set_cons_succ])
            go_cut [52] (fun v52 wc => ∃ (kq : Nat) (x52_15 : Bool), v52 = .bool x52_15 ∧ Aside0 (sandglasslaw02_NumsBack.j1 kq a0 a1 t192 t193 t194 t195 x52_15 a2_0 a2_1 = some r) ∧ Aside0 (kq ≤ kj3) ∧ Aside0 (wc.heap[gb190]? = some (.cells #[.string a2_0, .string a2_1] 40 (0, 0))) ∧ Aside0 (Below w.heap.size w wc))
            case first =>
              have H := HC16.out
              clear HC16
              by_cases c20 : a1 < 0
              · rw [if_pos c20] at H
                have c20b0 : decide (a1 < 0) = true := decide_eq_true c20
                clear c20
                (first | rw [c20b0] | (simp only [i64_w, i32_w]; rw [c20b0]) | skip)
                have H' := Aside0.mk H
                clear H
                go_wp2
                go_meet
                case rel => exact ⟨_, (true), (by first | (with_reducible rfl) | rfl | (simp; done) | (simp [*]; done)), H', ⟨by have := HJ3.out; first | omega | exact Nat.le_refl _⟩, ⟨bo BK190⟩, ⟨bl HB⟩⟩
              · rw [if_neg c20] at H
                have c20b0 : decide (a1 < 0) = false := decide_eq_false c20
                clear c20
                (first | rw [c20b0] | (simp only [i64_w, i32_w]; rw [c20b0]) | skip)
                have H' := Aside0.mk H
                clear H
                go_wp2
                go_meet
                case rel => exact ⟨_, (decide (a1 > 8)), (by first | (with_reducible rfl) | rfl | (simp; done) | (simp [*]; done)), H', ⟨by have := HJ3.out; first | omega | exact Nat.le_refl _⟩, ⟨bo BK190⟩, ⟨bl HB⟩⟩
            case rest =>
              clear HC16
              try clear c1
              try clear c2
              try clear p2
              try clear c6
              try clear c6b0
              try clear c6b1
              try clear c9
              try clear c13
              try clear c13b0
              try clear c13b1
              try clear c13b2
              try clear c14
              try clear c14b0
              try clear c14b1
              try clear c14b2
              try clear c17
              try clear c20
              try clear c20b0
              try clear hcz18_0
              try clear hcz18_1
              try clear hcz7_0
              try clear hcz7_1
              try clear hcz8_0
              try clear hcz8_1
              try clear hfz18_0
              try clear hfz18_1
              try clear hfz7_0
              try clear hfz7_1
              try clear hfz8_0
              try clear hfz8_1
              try clear p2
              obtain ⟨kq, x52_15, rfl, HA, HJ15, BK190, HB⟩ := hcut
              cases kq with
              | zero => exact absurd HA.out (by simp [sandglasslaw02_NumsBack.j1])
              | succ kj15 =>
                have H := HA.out
                clear HA
                simp only [sandglasslaw02_NumsBack.j1] at H
                by_cases c21 : x52_15 = true
                · subst c21
                  rw [if_pos rfl] at H
                  by_cases c22 : t192.toList = ([] : List UInt8)
                  · rw [if_pos c22] at H
                    have c22b0 : (t192.toList == ([] : List UInt8)) = true := beq_iff_eq.mpr c22
                    have c22b1 : (t192.toList != ([] : List UInt8)) = false := bne_eq_false_iff_eq.mpr c22
                    clear c22
                    by_cases c23 : t195 = 1
                    · rw [if_pos c23] at H
                      have c23b0 : (t195 == 1) = true := beq_iff_eq.mpr c23
                      have c23b1 : (t195 != 1) = false := bne_eq_false_iff_eq.mpr c23
                      clear c23
                      replace H := Option.bind_eq_some_iff.mp H
                      obtain ⟨t196, A240, H⟩ := H
                      have A24 := Aside0.mk A240
                      clear A240
                      obtain rfl := Option.some.inj H
                      go_wp2_with (first | (go_at_call 17; (with_reducible refine (sandglasslaw02_live.calls kj15  t196 _ A24.out).mono ?_); rintro e w25 ⟨rfl, hb⟩; replace BK190 := Aside0.mk (blk_below (bo BK190) hb); replace HB := Aside0.mk (below_step (bl HB) hb); (try clear hb); (try clear hb2); (try clear hk); (try clear hi)))
                      go_ret
                      exact ⟨by first | (with_reducible rfl) | rfl | (simp [errW_none, errW_some] <;> rfl) | (simp [*, errW_none, errW_some] <;> rfl), bl HB⟩
                    · rw [if_neg c23] at H
                      exact absurd H (by simp)
                  · rw [if_neg c22] at H
                    exact absurd H (by simp)
                · replace c21 := Bool.eq_false_iff.mpr c21
                  subst c21
                  rw [if_neg (show ¬ (false = true) by decide)] at H
                  have HC26 := Aside0.mk H
                  clear H
                  go_upto_if 64 with (fail)
                  go_cut [11] (fun v11 wc => ∃ (kq : Nat) (x11_25 : Int), v11 = .int .u64 x11_25 ∧ Aside0 (sandglasslaw02_NumsBack.j2 kq a1 t192 t193 t194 t195 x11_25 a2_0 a2_1 = some r) ∧ Aside0 (kq ≤ kj15) ∧ Aside0 (wc.heap[gb190]? = some (.cells #[.string a2_0, .string a2_1] 40 (0, 0))) ∧ Aside0 (Below w.heap.size w wc))
                  case first =>
                    have H := HC26.out
                    clear HC26
                    by_cases c27 : a1 < 8
                    · rw [if_pos c27] at H
                      have c27b0 : decide (a1 < 8) = true := decide_eq_true c27
                      clear c27
                      (first | rw [c27b0] | (simp only [i64_w, i32_w]; rw [c27b0]) | skip)
                      obtain ⟨ji28, hji28⟩ : ∃ j_ : Int, (IntKind.u64.wrap (wrap64 (8 * a1))) = j_ := ⟨_, rfl⟩
                      replace H : (if 0 ≤ (ji28) then (sandglasslaw02_NumsBack.j2 kj15 a1 t192 t193 t194 t195 (Go.bits .and .u64 a0 (IntKind.u64.wrap ((shl .u64 1 (ji28)) - 1))) a2_0 a2_1) else (none)) = some r := by first | (rw [hji28] at H; exact H) | (simp only [hji28] at H ⊢; exact H)
                      by_cases c29 : 0 ≤ (ji28)
                      · rw [if_pos c29] at H
                        have c29b0 := eq_true c29
                        have c29b1 : decide (0 ≤ (ji28)) = true := decide_eq_true c29
                        clear c29
                        obtain ⟨ji30, hji30⟩ : ∃ j_ : Int, (shl .u64 1 (ji28)) = j_ := ⟨_, rfl⟩
                        replace H : (sandglasslaw02_NumsBack.j2 kj15 a1 t192 t193 t194 t195 (Go.bits .and .u64 a0 (IntKind.u64.wrap ((ji30) - 1))) a2_0 a2_1) = some r := by first | (rw [hji30] at H; exact H) | (simp only [hji30] at H ⊢; exact H)
                        have hji30_ : (IntKind.u64.wrap (1 * 2 ^ min (ji28).toNat 64)) = ji30 := hji30
                        have hji30z : (ji28) ≤ 64 → (IntKind.u64.wrap (1 * 2 ^ (ji28).toNat)) = ji30 := shl_small hji30
                        have hji30u : (IntKind.u64.wrap (2 ^ min (ji28).toNat 64)) = ji30 := by have h_ := hji30_; rw [Int.one_mul] at h_; exact h_
                        have hji30v : (ji28) ≤ 64 → (IntKind.u64.wrap (2 ^ (ji28).toNat)) = ji30 := fun hle_ => by have h_ := hji30z hle_; rw [Int.one_mul] at h_; exact h_
                        have H' := Aside0.mk H
                        clear H
                        go_wp2
                        go_meet
                        case rel => exact ⟨_, (Go.bits .and .u64 a0 (IntKind.u64.wrap ((ji30) - 1))), (by first | (with_reducible rfl) | (simp only [← hji30]; with_reducible rfl) | (simp only [← hji30]; done) | rfl | (simp; done) | (simp only [← hji30] <;> (first | rfl | simp)) | (simp [*]; done)), H', ⟨by have := HJ3.out; have := HJ15.out; first | omega | exact Nat.le_refl _⟩, ⟨bo BK190⟩, ⟨bl HB⟩⟩
                      · rw [if_neg c29] at H
                        exact absurd H (by simp)
                    · rw [if_neg c27] at H
                      have c27b0 : decide (a1 < 8) = false := decide_eq_false c27
                      clear c27
                      (first | rw [c27b0] | (simp only [i64_w, i32_w]; rw [c27b0]) | skip)
                      have H' := Aside0.mk H
                      clear H
                      go_wp2
                      go_meet
                      case rel => exact ⟨_, (a0), (by first | (with_reducible rfl) | rfl | (simp; done) | (simp [*]; done)), H', ⟨by have := HJ3.out; have := HJ15.out; first | omega | exact Nat.le_refl _⟩, ⟨bo BK190⟩, ⟨bl HB⟩⟩
                  case rest =>
                    clear HC26
                    try clear c1
                    try clear c2
                    try clear p2
                    try clear c6
                    try clear c6b0
                    try clear c6b1
                    try clear p6
                    try clear c9
                    try clear c13
                    try clear c13b0
                    try clear c13b1
                    try clear c13b2
                    try clear c14
                    try clear c14b0
                    try clear c14b1
                    try clear c14b2
                    try clear c17
                    try clear c20
                    try clear c20b0
                    try clear c21
                    try clear c22
                    try clear c22b0
                    try clear c22b1
                    try clear c23
                    try clear c23b0
                    try clear c23b1
                    try clear c27
                    try clear c27b0
                    try clear c29
                    try clear c29b0
                    try clear c29b1
                    try clear hcz18_0
                    try clear hcz18_1
                    try clear hcz7_0
                    try clear hcz7_1
                    try clear hcz8_0
                    try clear hcz8_1
                    try clear hfz18_0
                    try clear hfz18_1
                    try clear hfz7_0
                    try clear hfz7_1
                    try clear hfz8_0
                    try clear hfz8_1
                    try clear p2
                    obtain ⟨kq, x11_25, rfl, HA, HJ25, BK190, HB⟩ := hcut
                    cases kq with
                    | zero => exact absurd HA.out (by simp [sandglasslaw02_NumsBack.j2])
                    | succ kj25 =>
                      have H := HA.out
                      clear HA
                      simp only [sandglasslaw02_NumsBack.j2] at H
                      have HC31 := Aside0.mk H
                      clear H
                      go_upto_region 10 with (fail)
                      go_cut [93] (fun v93 wc => ∃ (kq : Nat) (x93_30 : Bool), v93 = .bool x93_30 ∧ Aside0 (sandglasslaw02_NumsBack.j3 kq x93_30 a2_0 a2_1 = some r) ∧ Aside0 (kq ≤ kj25) ∧ Aside0 (wc.heap[gb190]? = some (.cells #[.string a2_0, .string a2_1] 40 (0, 0))) ∧ Aside0 (Below w.heap.size w wc))
                      case first =>
                        have H := HC31.out
                        clear HC31
                        by_cases c32 : t193 = x11_25
                        · rw [if_pos c32] at H
                          have c32b0 : (t193 == x11_25) = true := beq_iff_eq.mpr c32
                          have c32b1 : (t193 != x11_25) = false := bne_eq_false_iff_eq.mpr c32
                          clear c32
                          (first | rw [c32b0] | (simp only [i64_w, i32_w]; rw [c32b0]) | skip)
                          by_cases c33 : t194 = (wrap64 ((a2_0.size : Int) + a1))
                          · rw [if_pos c33] at H
                            have c33b0 : (t194 == (wrap64 ((a2_0.size : Int) + a1))) = true := beq_iff_eq.mpr c33
                            have c33b0w := c33b0
                            (try (rw [wr_in (by omega) (by omega)] at c33b0w))
                            have c33b1 : (t194 != (wrap64 ((a2_0.size : Int) + a1))) = false := bne_eq_false_iff_eq.mpr c33
                            have c33b1w := c33b1
                            (try (rw [wr_in (by omega) (by omega)] at c33b1w))
                            clear c33
                            by_cases c34 : t195 = 0
                            · rw [if_pos c34] at H
                              have c34b0 : (t195 == 0) = true := beq_iff_eq.mpr c34
                              have c34b1 : (t195 != 0) = false := bne_eq_false_iff_eq.mpr c34
                              clear c34
                              have H' := Aside0.mk H
                              clear H
                              obtain ⟨hcz35_0, hcz35_1⟩ := ce2 BK190
                              obtain ⟨hfz35_0, hfz35_1⟩ := fr2 BK190
                              go_wp2
                              go_meet
                              case rel => exact ⟨_, (((t192.size : Int) != a1)), (by first | (with_reducible rfl) | rfl | (simp; done) | (simp [*]; done)), H', ⟨by have := HJ3.out; have := HJ15.out; have := HJ25.out; first | omega | exact Nat.le_refl _⟩, ⟨bo BK190⟩, ⟨bl HB⟩⟩
                            · rw [if_neg c34] at H
                              have c34b0 : (t195 == 0) = false := beq_eq_false_iff_ne.mpr c34
                              have c34b1 : (t195 != 0) = true := bne_iff_ne.mpr c34
                              have H' := Aside0.mk H
                              clear H
                              obtain ⟨hcz36_0, hcz36_1⟩ := ce2 BK190
                              obtain ⟨hfz36_0, hfz36_1⟩ := fr2 BK190
                              go_wp2
                              go_meet
                              case rel => exact ⟨_, (true), (by first | (with_reducible rfl) | rfl | (simp; done) | (simp [*]; done)), H', ⟨by have := HJ3.out; have := HJ15.out; have := HJ25.out; first | omega | exact Nat.le_refl _⟩, ⟨bo BK190⟩, ⟨bl HB⟩⟩
                          · rw [if_neg c33] at H
                            have c33b0 : (t194 == (wrap64 ((a2_0.size : Int) + a1))) = false := beq_eq_false_iff_ne.mpr c33
                            have c33b0w := c33b0
                            (try (rw [wr_in (by omega) (by omega)] at c33b0w))
                            have c33b1 : (t194 != (wrap64 ((a2_0.size : Int) + a1))) = true := bne_iff_ne.mpr c33
                            have c33b1w := c33b1
                            (try (rw [wr_in (by omega) (by omega)] at c33b1w))
                            have H' := Aside0.mk H
                            clear H
                            obtain ⟨hcz37_0, hcz37_1⟩ := ce2 BK190
                            obtain ⟨hfz37_0, hfz37_1⟩ := fr2 BK190
                            go_wp2
                            go_meet
                            case rel => exact ⟨_, (true), (by first | (with_reducible rfl) | rfl | (simp; done) | (simp [*]; done)), H', ⟨by have := HJ3.out; have := HJ15.out; have := HJ25.out; first | omega | exact Nat.le_refl _⟩, ⟨bo BK190⟩, ⟨bl HB⟩⟩
                        · rw [if_neg c32] at H
                          have c32b0 : (t193 == x11_25) = false := beq_eq_false_iff_ne.mpr c32
                          have c32b1 : (t193 != x11_25) = true := bne_iff_ne.mpr c32
                          (first | rw [c32b0] | (simp only [i64_w, i32_w]; rw [c32b0]) | skip)
                          have H' := Aside0.mk H
                          clear H
                          go_wp2
                          go_meet
                          case rel => exact ⟨_, (true), (by first | (with_reducible rfl) | rfl | (simp; done) | (simp [*]; done)), H', ⟨by have := HJ3.out; have := HJ15.out; have := HJ25.out; first | omega | exact Nat.le_refl _⟩, ⟨bo BK190⟩, ⟨bl HB⟩⟩
                      case rest =>
                        clear HC31
                        try clear c1
                        try clear c2
                        try clear p2
                        try clear c3
                        try clear c6
                        try clear c6b0
                        try clear c6b1
                        try clear p6
                        try clear c9
                        try clear c13
                        try clear c13b0
                        try clear c13b1
                        try clear c13b2
                        try clear c14
                        try clear c14b0
                        try clear c14b1
                        try clear c14b2
                        try clear c17
                        try clear c20
                        try clear c20b0
                        try clear c21
                        try clear c22
                        try clear c22b0
                        try clear c22b1
                        try clear c23
                        try clear c23b0
                        try clear c23b1
                        try clear c27
                        try clear c27b0
                        try clear c29
                        try clear c29b0
                        try clear c29b1
                        try clear c32
                        try clear c32b0
                        try clear c32b1
                        try clear c33
                        try clear c33b0
                        try clear c33b1
                        try clear c34
                        try clear c34b0
                        try clear c34b1
                        try clear hcz18_0
                        try clear hcz18_1
                        try clear hcz35_0
                        try clear hcz35_1
                        try clear hcz36_0
                        try clear hcz36_1
                        try clear hcz37_0
                        try clear hcz37_1
                        try clear hcz7_0
                        try clear hcz7_1
                        try clear hcz8_0
                        try clear hcz8_1
                        try clear hfz18_0
                        try clear hfz18_1
                        try clear hfz35_0
                        try clear hfz35_1
                        try clear hfz36_0
                        try clear hfz36_1
                        try clear hfz37_0
                        try clear hfz37_1
                        try clear hfz7_0
                        try clear hfz7_1
                        try clear hfz8_0
                        try clear hfz8_1
                        try clear p2
                        try clear p6
                        obtain ⟨kq, x93_30, rfl, HA, HJ30, BK190, HB⟩ := hcut
                        cases kq with
                        | zero => exact absurd HA.out (by simp [sandglasslaw02_NumsBack.j3])
                        | succ kj30 =>
                          have H := HA.out
                          clear HA
                          simp only [sandglasslaw02_NumsBack.j3] at H
                          by_cases c38 : x93_30 = true
                          · subst c38
                            rw [if_pos rfl] at H
                            exact absurd H (by simp)
                          · replace c38 := Bool.eq_false_iff.mpr c38
                            subst c38
                            rw [if_neg (show ¬ (false = true) by decide)] at H
                            replace H := Option.bind_eq_some_iff.mp H
                            obtain ⟨⟨t197, t198⟩, A390, H⟩ := H
                            have A39 := Aside0.mk A390
                            clear A390
                            by_cases c40 : a2_0.size + t197.size ≤ 9223372036854775807
                            · rw [if_pos c40] at H
                              have c40b0 := eq_true c40
                              have c40b1 : decide (a2_0.size + t197.size ≤ 9223372036854775807) = true := decide_eq_true c40
                              try have c40b2 : (9223372036854775807 < a2_0.size + t197.size) = False := eq_false (Nat.not_lt.2 c40)
                              by_cases c41 : (a2_0 ++ t197).size + a2_0.size ≤ 9223372036854775807
                              · rw [if_pos c41] at H
                                have c41b0 := eq_true c41
                                have c41b1 : decide ((a2_0 ++ t197).size + a2_0.size ≤ 9223372036854775807) = true := decide_eq_true c41
                                try have c41b2 : (9223372036854775807 < (a2_0 ++ t197).size + a2_0.size) = False := eq_false (Nat.not_lt.2 c41)
                                replace H := Option.bind_eq_some_iff.mp H
                                obtain ⟨⟨t199, t200, t201⟩, A420, H⟩ := H
                                have A42 := Aside0.mk A420
                                clear A420
                                by_cases c43 : t198 = true
                                · subst c43
                                  rw [if_pos rfl] at H
                                  by_cases c44 : t199.toList = a2_1.toList
                                  · rw [if_pos c44] at H
                                    have c44b0 : (t199.toList == a2_1.toList) = true := beq_iff_eq.mpr c44
                                    have c44b1 : (t199.toList != a2_1.toList) = false := bne_eq_false_iff_eq.mpr c44
                                    clear c44
                                    by_cases c45 : t200 = (wrap64 ((a2_0.size : Int) + (t197.size : Int)))
                                    · rw [if_pos c45] at H
                                      have c45b0 : (t200 == (wrap64 ((a2_0.size : Int) + (t197.size : Int)))) = true := beq_iff_eq.mpr c45
                                      have c45b0w := c45b0
                                      (try (rw [wr_in (by omega) (by omega)] at c45b0w))
                                      have c45b1 : (t200 != (wrap64 ((a2_0.size : Int) + (t197.size : Int)))) = false := bne_eq_false_iff_eq.mpr c45
                                      have c45b1w := c45b1
                                      (try (rw [wr_in (by omega) (by omega)] at c45b1w))
                                      clear c45
                                      by_cases c46 : t201 = 0
                                      · rw [if_pos c46] at H
                                        have c46b0 : (t201 == 0) = true := beq_iff_eq.mpr c46
                                        have c46b1 : (t201 != 0) = false := bne_eq_false_iff_eq.mpr c46
                                        clear c46
                                        by_cases c47 : (t197.size : Int) = (wrap64 ((a2_1.size : Int) + 1))
                                        · rw [if_pos c47] at H
                                          have c47b0 : ((t197.size : Int) == (wrap64 ((a2_1.size : Int) + 1))) = true := beq_iff_eq.mpr c47
                                          have c47b0w := c47b0
                                          (try (rw [wr_in (by omega) (by omega)] at c47b0w))
                                          have c47b1 : ((t197.size : Int) != (wrap64 ((a2_1.size : Int) + 1))) = false := bne_eq_false_iff_eq.mpr c47
                                          have c47b1w := c47b1
                                          (try (rw [wr_in (by omega) (by omega)] at c47b1w))
                                          clear c47
                                          replace H := Option.bind_eq_some_iff.mp H
                                          obtain ⟨t203, A480, H⟩ := H
                                          have A48 := Aside0.mk A480
                                          clear A480
                                          obtain rfl := Option.some.inj H
                                          obtain ⟨hcz49_0, hcz49_1⟩ := ce2 BK190
                                          obtain ⟨hfz49_0, hfz49_1⟩ := fr2 BK190
                                          go_wp2_with (first | ((with_reducible refine gate_callee (f := 24) rfl ?_); refine goesL_ (some 97) rfl rfl Try.func24 (by kernel_rfl) rfl #[.string a2_1] rfl (by (try simp only [List.map_toArray, List.map_cons, List.map_nil]); first | done | rfl | (simp only [List.length_drop, List.length_take]; rfl)) ?_; (with_reducible refine (nums_Put.calls a2_1 t197 true _ A39.out).mono ?_); rintro e w50 ⟨rfl, hb⟩; refine ⟨_, rfl, ?_⟩; replace BK190 := Aside0.mk (blk_below (bo BK190) hb); replace HB := Aside0.mk (below_step (bl HB) hb); (try clear hb); (try clear hb2); (try clear hk); (try clear hi); obtain ⟨hcz51_0, hcz51_1⟩ := ce2 BK190; obtain ⟨hfz51_0, hfz51_1⟩ := fr2 BK190) | ((with_reducible refine gate_callee (f := 26) rfl ?_); refine goesL_ (some 111) rfl rfl Try.func26 (by kernel_rfl) rfl #[.string ((a2_0 ++ t197) ++ a2_0), .int .i64 (a2_0.size : Int)] rfl (by (try simp only [List.map_toArray, List.map_cons, List.map_nil]); first | done | rfl | (simp only [List.length_drop, List.length_take]; rfl)) ?_; (with_reducible refine (nums_Text.calls ((a2_0 ++ t197) ++ a2_0) (a2_0.size : Int) t199 t200 t201 _ A42.out).mono ?_); rintro e w52 ⟨rfl, hb⟩; refine ⟨_, rfl, ?_⟩; replace BK190 := Aside0.mk (blk_below (bo BK190) hb); replace HB := Aside0.mk (below_step (bl HB) hb); (try clear hb); (try clear hb2); (try clear hk); (try clear hi); obtain ⟨hcz53_0, hcz53_1⟩ := ce2 BK190; obtain ⟨hfz53_0, hfz53_1⟩ := fr2 BK190) | (go_at_call 17; (with_reducible refine (sandglasslaw02_live.calls kj30  t203 _ A48.out).mono ?_); rintro e w54 ⟨rfl, hb⟩; replace BK190 := Aside0.mk (blk_below (bo BK190) hb); replace HB := Aside0.mk (below_step (bl HB) hb); (try clear hb); (try clear hb2); (try clear hk); (try clear hi)))
                                          go_ret
                                          exact ⟨by first | (with_reducible rfl) | rfl | (simp [errW_none, errW_some] <;> rfl) | (simp [*, errW_none, errW_some] <;> rfl), bl HB⟩
                                        · rw [if_neg c47] at H
                                          exact absurd H (by simp)
                                      · rw [if_neg c46] at H
                                        exact absurd H (by simp)
                                    · rw [if_neg c45] at H
                                      exact absurd H (by simp)
                                  · rw [if_neg c44] at H
                                    exact absurd H (by simp)
                                · replace c43 := Bool.eq_false_iff.mpr c43
                                  subst c43
                                  rw [if_neg (show ¬ (false = true) by decide)] at H
                                  by_cases c55 : (a2_1.size : Int) > 255
                                  · rw [if_pos c55] at H
                                    have c55b0 : decide (255 < (a2_1.size : Int)) = true := decide_eq_true c55
                                    have c55b1 : decide (255 < a2_1.size) = true := decide_eq_true (by omega)
                                    clear c55
                                    by_cases c56 : t197.toList = ([] : List UInt8)
                                    · rw [if_pos c56] at H
                                      have c56b0 : (t197.toList == ([] : List UInt8)) = true := beq_iff_eq.mpr c56
                                      have c56b1 : (t197.toList != ([] : List UInt8)) = false := bne_eq_false_iff_eq.mpr c56
                                      clear c56
                                      replace H := Option.bind_eq_some_iff.mp H
                                      obtain ⟨t202, A570, H⟩ := H
                                      have A57 := Aside0.mk A570
                                      clear A570
                                      obtain rfl := Option.some.inj H
                                      obtain ⟨hcz58_0, hcz58_1⟩ := ce2 BK190
                                      obtain ⟨hfz58_0, hfz58_1⟩ := fr2 BK190
                                      go_wp2_with (first | ((with_reducible refine gate_callee (f := 24) rfl ?_); refine goesL_ (some 97) rfl rfl Try.func24 (by kernel_rfl) rfl #[.string a2_1] rfl (by (try simp only [List.map_toArray, List.map_cons, List.map_nil]); first | done | rfl | (simp only [List.length_drop, List.length_take]; rfl)) ?_; (with_reducible refine (nums_Put.calls a2_1 t197 false _ A39.out).mono ?_); rintro e w59 ⟨rfl, hb⟩; refine ⟨_, rfl, ?_⟩; replace BK190 := Aside0.mk (blk_below (bo BK190) hb); replace HB := Aside0.mk (below_step (bl HB) hb); (try clear hb); (try clear hb2); (try clear hk); (try clear hi); obtain ⟨hcz60_0, hcz60_1⟩ := ce2 BK190; obtain ⟨hfz60_0, hfz60_1⟩ := fr2 BK190) | ((with_reducible refine gate_callee (f := 26) rfl ?_); refine goesL_ (some 111) rfl rfl Try.func26 (by kernel_rfl) rfl #[.string ((a2_0 ++ t197) ++ a2_0), .int .i64 (a2_0.size : Int)] rfl (by (try simp only [List.map_toArray, List.map_cons, List.map_nil]); first | done | rfl | (simp only [List.length_drop, List.length_take]; rfl)) ?_; (with_reducible refine (nums_Text.calls ((a2_0 ++ t197) ++ a2_0) (a2_0.size : Int) t199 t200 t201 _ A42.out).mono ?_); rintro e w61 ⟨rfl, hb⟩; refine ⟨_, rfl, ?_⟩; replace BK190 := Aside0.mk (blk_below (bo BK190) hb); replace HB := Aside0.mk (below_step (bl HB) hb); (try clear hb); (try clear hb2); (try clear hk); (try clear hi); obtain ⟨hcz62_0, hcz62_1⟩ := ce2 BK190; obtain ⟨hfz62_0, hfz62_1⟩ := fr2 BK190) | (go_at_call 17; (with_reducible refine (sandglasslaw02_live.calls kj30  t202 _ A57.out).mono ?_); rintro e w63 ⟨rfl, hb⟩; replace BK190 := Aside0.mk (blk_below (bo BK190) hb); replace HB := Aside0.mk (below_step (bl HB) hb); (try clear hb); (try clear hb2); (try clear hk); (try clear hi)))
                                      go_ret
                                      exact ⟨by first | (with_reducible rfl) | rfl | (simp [errW_none, errW_some] <;> rfl) | (simp [*, errW_none, errW_some] <;> rfl), bl HB⟩
                                    · rw [if_neg c56] at H
                                      exact absurd H (by simp)
                                  · rw [if_neg c55] at H
                                    exact absurd H (by simp)
                              · rw [if_neg c41] at H
                                exact absurd H (by simp)
                            · rw [if_neg c40] at H
                              exact absurd H (by simp)
          · rw [if_neg c14] at H
            exact absurd H (by simp)
        · rw [if_neg c13] at H
          exact absurd H (by simp)

end Go.Proofs.Ytbjnkhlepmocjaa.Q
