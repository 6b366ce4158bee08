-- Laid by wip/tools/hprint.py, a program of this repo, over the kit's print; not a text of print.sh.
import Derived.Test.YtpeljhmbaibjcaaQ0
import Derived.Test.YtpeljhmbaibjcaaQ5
import Derived.Test.YtpeljhmbaibjcaaQ6
namespace Go.Proofs.Ytpeljhmbaibjcaa.Q
open Go.RowKit Go.Proofs.Ytpeljhmbaibjcaa.Zip Go.Proofs.YtpeljhmbaibjcaaW.PrintWords Go.Proofs.YtpeljhmbaibjcaaW.PrintLast Go.Proofs.YtpeljhmbaibjcaaW.PrintMore
attribute [local go_sem] max2_int min2_int max_two min_two max_three min_three max_four min_four   -- for this text's walks alone
set_option linter.unusedVariables false
set_option linter.unusedSimpArgs false

/-! ### nums_Mul: function 32 -/
def nums_Mul.j0 : Nat → Int → Int → Int → Int → Bool → Option (Int)
  | 0, _, _, _, _, _ => none
  | k + 1, x2, x8, x10, x11, x39 => if x39 = true then (some x2) else ((nums_Add.f (IntKind.u64.wrap (x11 * 4294967296)) (IntKind.u64.wrap (x8 * x10)) x2).bind fun t106 => (some t106))
def nums_Mul.f (k : Nat) (a0 : Int) (a1 : Int) (a2 : Int) : Option (Int) := (nums_parts.f a0).bind fun bt102 => ((nums_parts.f a1).bind fun bt104 => (if bt102.1 = 0 then (nums_Mul.j0 k a2 bt102.2 bt104.2 (IntKind.u64.wrap ((IntKind.u64.wrap (bt102.1 * bt104.2)) + (IntKind.u64.wrap (bt102.2 * bt104.1)))) (((IntKind.u64.wrap ((IntKind.u64.wrap (bt102.1 * bt104.2)) + (IntKind.u64.wrap (bt102.2 * bt104.1)))) / 4294967296) != 0)) else (if bt104.1 = 0 then (nums_Mul.j0 k a2 bt102.2 bt104.2 (IntKind.u64.wrap ((IntKind.u64.wrap (bt102.1 * bt104.2)) + (IntKind.u64.wrap (bt102.2 * bt104.1)))) (((IntKind.u64.wrap ((IntKind.u64.wrap (bt102.1 * bt104.2)) + (IntKind.u64.wrap (bt102.2 * bt104.1)))) / 4294967296) != 0)) else (nums_Mul.j0 k a2 bt102.2 bt104.2 (IntKind.u64.wrap ((IntKind.u64.wrap (bt102.1 * bt104.2)) + (IntKind.u64.wrap (bt102.2 * bt104.1)))) true))))
theorem nums_Mul.mono_l : ∀ k, (∀ y0 y1 y2 y3 y4, LeO (nums_Mul.j0 k y0 y1 y2 y3 y4) (nums_Mul.j0 (k + 1) y0 y1 y2 y3 y4))
  | 0 => fun _ _ _ _ _ r h => by simp [nums_Mul.j0] at h
  | k + 1 => by
    have ih0 := nums_Mul.mono_l k
    · intro y0 y1 y2 y3 y4
      unfold nums_Mul.j0
      repeat' first
      | (with_reducible exact ih0 _ _ _ _ _)
      | (with_reducible exact LeO.refl _)
      | (with_reducible exact LeO.none _)
      | (with_reducible refine LeO.ite ?_ ?_)
      | (with_reducible refine LeO.bind ?_ (fun _ => ?_))
      | exact ih0 _ _ _ _ _
      | exact LeO.none _
      | refine LeO.ite ?_ ?_
      | refine LeO.bind ?_ (fun _ => ?_)
theorem nums_Mul.mono : ∀ a0 a1 a2 k, LeO (nums_Mul.f k a0 a1 a2) (nums_Mul.f (k + 1) a0 a1 a2) := by
  intro a0 a1 a2 k
  have ih0 := nums_Mul.mono_l k
  unfold nums_Mul.f
  repeat' first
      | (with_reducible exact ih0 _ _ _ _ _)
      | (with_reducible exact LeO.refl _)
      | (with_reducible exact LeO.none _)
      | (with_reducible refine LeO.ite ?_ ?_)
      | (with_reducible refine LeO.bind ?_ (fun _ => ?_))
      | exact ih0 _ _ _ _ _
      | exact LeO.none _
      | refine LeO.ite ?_ ?_
      | refine LeO.bind ?_ (fun _ => ?_)
set_option maxHeartbeats 8000000 in
set_option maxRecDepth 100000 in
theorem nums_Mul.calls (k : Nat) (a0 : Int) (a1 : Int) (a2 : Int) (r : Int) (w : World) (h : nums_Mul.f k a0 a1 a2 = some r) :
    Calls Try.prog 32 #[.int .u64 a0, .int .u64 a1, .int .u64 a2] w fun e w' => e = .returned (.int .u64 r) ∧ Below w.heap.size w w' := by
  have HB := Aside0.mk (Below.refl w.heap.size w)
  have H : ((nums_parts.f a0).bind fun bt102 => ((nums_parts.f a1).bind fun bt104 => (if bt102.1 = 0 then (nums_Mul.j0 k a2 bt102.2 bt104.2 (IntKind.u64.wrap ((IntKind.u64.wrap (bt102.1 * bt104.2)) + (IntKind.u64.wrap (bt102.2 * bt104.1)))) (((IntKind.u64.wrap ((IntKind.u64.wrap (bt102.1 * bt104.2)) + (IntKind.u64.wrap (bt102.2 * bt104.1)))) / 4294967296) != 0)) else (if bt104.1 = 0 then (nums_Mul.j0 k a2 bt102.2 bt104.2 (IntKind.u64.wrap ((IntKind.u64.wrap (bt102.1 * bt104.2)) + (IntKind.u64.wrap (bt102.2 * bt104.1)))) (((IntKind.u64.wrap ((IntKind.u64.wrap (bt102.1 * bt104.2)) + (IntKind.u64.wrap (bt102.2 * bt104.1)))) / 4294967296) != 0)) else (nums_Mul.j0 k a2 bt102.2 bt104.2 (IntKind.u64.wrap ((IntKind.u64.wrap (bt102.1 * bt104.2)) + (IntKind.u64.wrap (bt102.2 * bt104.1)))) true))))) = some r := h
  clear h
  replace H := Option.bind_eq_some_iff.mp H
  obtain ⟨⟨t102, t103⟩, A40, H⟩ := H
  have A4 := Aside0.mk A40
  clear A40
  replace H := Option.bind_eq_some_iff.mp H
  obtain ⟨⟨t104, t105⟩, A50, H⟩ := H
  have A5 := Aside0.mk A50
  clear A50
  have HC6 := Aside0.mk H
  clear H
  go_enter Try.func32, Try.ntmps32
  go_upto_region 4 with (first | ((with_reducible refine gate_callee (f := 36) rfl ?_); refine goesL_ (some 14) rfl rfl Try.func36 (by kernel_rfl) rfl #[.int .u64 a0] rfl (by (try simp only [List.map_toArray, List.map_cons, List.map_nil]); first | done | rfl | (simp only [List.length_drop, List.length_take]; rfl)) ?_; (with_reducible refine (nums_parts.calls a0 t102 t103 _ A4.out).mono ?_); rintro e w' ⟨rfl, ⟨nd, rfl⟩⟩; refine ⟨_, rfl, ?_⟩) | ((with_reducible refine gate_callee (f := 36) rfl ?_); refine goesL_ (some 19) rfl rfl Try.func36 (by kernel_rfl) rfl #[.int .u64 a1] rfl (by (try simp only [List.map_toArray, List.map_cons, List.map_nil]); first | done | rfl | (simp only [List.length_drop, List.length_take]; rfl)) ?_; (with_reducible refine (nums_parts.calls a1 t104 t105 _ A5.out).mono ?_); rintro e w' ⟨rfl, ⟨nd, rfl⟩⟩; refine ⟨_, rfl, ?_⟩))
  (try simp only [Act.put, List.setIfInBounds_toArray, List.set_cons_zero, List.set_cons_succ])
  go_cut [39] (fun v39 wc => ∃ (kq : Nat) (x39_5 : Bool), v39 = .bool x39_5 ∧ Aside0 (nums_Mul.j0 kq a2 t103 t105 (IntKind.u64.wrap ((IntKind.u64.wrap (t102 * t105)) + (IntKind.u64.wrap (t103 * t104)))) x39_5 = some r) ∧ Aside0 (kq ≤ k) ∧ Aside0 (Below w.heap.size w wc))
  case first =>
    have H := HC6.out
    clear HC6
    by_cases c7 : t102 = 0
    · rw [if_pos c7] at H
      have c7b0 : (t102 == 0) = true := beq_iff_eq.mpr c7
      have c7b1 : (t102 != 0) = false := bne_eq_false_iff_eq.mpr c7
      clear c7
      (first | rw [c7b0] | (simp only [i64_w, i32_w]; rw [c7b0]) | skip)
      have H' := Aside0.mk H
      clear H
      go_wp2
      go_meet
      case rel => exact ⟨_, ((((IntKind.u64.wrap ((IntKind.u64.wrap (t102 * t105)) + (IntKind.u64.wrap (t103 * t104)))) / 4294967296) != 0)), (by first | (with_reducible rfl) | rfl | (simp; done) | (simp [*]; done)), H', ⟨by first | omega | exact Nat.le_refl _⟩, ⟨bl HB⟩⟩
    · rw [if_neg c7] at H
      have c7b0 : (t102 == 0) = false := beq_eq_false_iff_ne.mpr c7
      have c7b1 : (t102 != 0) = true := bne_iff_ne.mpr c7
      (first | rw [c7b0] | (simp only [i64_w, i32_w]; rw [c7b0]) | skip)
      by_cases c8 : t104 = 0
      · rw [if_pos c8] at H
        have c8b0 : (t104 == 0) = true := beq_iff_eq.mpr c8
        have c8b1 : (t104 != 0) = false := bne_eq_false_iff_eq.mpr c8
        clear c8
        have H' := Aside0.mk H
        clear H
        go_wp2
        go_meet
        case rel => exact ⟨_, ((((IntKind.u64.wrap ((IntKind.u64.wrap (t102 * t105)) + (IntKind.u64.wrap (t103 * t104)))) / 4294967296) != 0)), (by first | (with_reducible rfl) | rfl | (simp; done) | (simp [*]; done)), H', ⟨by first | omega | exact Nat.le_refl _⟩, ⟨bl HB⟩⟩
      · rw [if_neg c8] at H
        have c8b0 : (t104 == 0) = false := beq_eq_false_iff_ne.mpr c8
        have c8b1 : (t104 != 0) = true := bne_iff_ne.mpr c8
        have H' := Aside0.mk H
        clear H
        go_wp2
        go_meet
        case rel => exact ⟨_, (true), (by first | (with_reducible rfl) | rfl | (simp; done) | (simp [*]; done)), H', ⟨by first | omega | exact Nat.le_refl _⟩, ⟨bl HB⟩⟩
  case rest =>
    clear HC6
    try clear p2
    try clear c3
    try clear c7
    try clear c7b0
    try clear c7b1
    try clear c8
    try clear c8b0
    try clear c8b1
    obtain ⟨kq, x39_5, rfl, HA, HJ5, HB⟩ := hcut
    cases kq with
    | zero => exact absurd HA.out (by simp [nums_Mul.j0])
    | succ kj5 =>
      have H := HA.out
      clear HA
      simp only [nums_Mul.j0] at H
      by_cases c9 : x39_5 = true
      · subst c9
        rw [if_pos rfl] at H
        obtain rfl := Option.some.inj H
        go_wp2
        go_ret
        exact ⟨by first | (with_reducible rfl) | rfl | (simp [errW_none, errW_some] <;> rfl) | (simp [*, errW_none, errW_some] <;> rfl), bl HB⟩
      · replace c9 := Bool.eq_false_iff.mpr c9
        subst c9
        rw [if_neg (show ¬ (false = true) by decide)] at H
        replace H := Option.bind_eq_some_iff.mp H
        obtain ⟨t106, A100, H⟩ := H
        have A10 := Aside0.mk A100
        clear A100
        obtain rfl := Option.some.inj H
        go_wp2_with (first | ((with_reducible refine gate_callee (f := 37) rfl ?_); refine goesL_ (some 47) rfl rfl Try.func37 (by kernel_rfl) rfl #[.int .u64 (IntKind.u64.wrap ((IntKind.u64.wrap ((IntKind.u64.wrap (t102 * t105)) + (IntKind.u64.wrap (t103 * t104)))) * 4294967296)), .int .u64 (IntKind.u64.wrap (t103 * t105)), .int .u64 a2] rfl (by (try simp only [List.map_toArray, List.map_cons, List.map_nil]); first | done | rfl | (simp only [List.length_drop, List.length_take]; rfl)) ?_; (with_reducible refine (nums_Add.calls (IntKind.u64.wrap ((IntKind.u64.wrap ((IntKind.u64.wrap (t102 * t105)) + (IntKind.u64.wrap (t103 * t104)))) * 4294967296)) (IntKind.u64.wrap (t103 * t105)) a2 t106 _ A10.out).mono ?_); rintro e w11 ⟨rfl, hb⟩; refine ⟨_, rfl, ?_⟩; replace HB := Aside0.mk (below_step (bl HB) hb); (try clear hb); (try clear hb2); (try clear hk); (try clear hi)))
        go_ret
        exact ⟨by first | (with_reducible rfl) | rfl | (simp [errW_none, errW_some] <;> rfl) | (simp [*, errW_none, errW_some] <;> rfl), bl HB⟩

end Go.Proofs.Ytpeljhmbaibjcaa.Q
