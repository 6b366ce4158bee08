-- Laid by wip/tools/hprint.py, a program of this repo, over the kit's print; not a text of print.sh.
import Derived.Test.YtbjnkhlepmocjaaQ0
import Derived.Test.YtbjnkhlepmocjaaQ1
import Derived.Test.YtbjnkhlepmocjaaQ4
import Derived.Test.YtbjnkhlepmocjaaQ6
import Derived.Test.YtbjnkhlepmocjaaQ8
import Derived.Test.YtbjnkhlepmocjaaQ15
namespace Go.Proofs.Ytbjnkhlepmocjaa.Q
open Go.RowKit Go.Proofs.Ytbjnkhlepmocjaa.Zip Go.Proofs.YtbjnkhlepmocjaaW.PrintWords Go.Proofs.YtbjnkhlepmocjaaW.PrintLast Go.Proofs.YtbjnkhlepmocjaaW.PrintMore
attribute [local go_sem] max2_int min2_int max_two min_two max_three min_three max_four min_four   -- for this text's walks alone
set_option linter.unusedVariables false
set_option linter.unusedSimpArgs false

/-! ### sandglasslaw02_NumsLaws: function 7 -/
mutual
def sandglasslaw02_NumsLaws.j0 : Nat → Int → Int → Int → Int → Int → Bool → Option (Bool)
  | 0, _, _, _, _, _, _ => none
  | k + 1, x0, x1, x2, x7, x8, x43 => if x43 = true then (none) else (if x0 ≤ x2 then (if x1 ≤ x2 then (if x7 < x2 then ((nums_Sub.f x7 x0).bind fun t208 => (if t208 = x1 then ((nums_Sub.f x7 x1).bind fun t209 => (if t209 = x0 then (sandglasslaw02_NumsLaws.j1 k x0 x1 x2 x8 (decide (x7 < x0))) else (sandglasslaw02_NumsLaws.j1 k x0 x1 x2 x8 true))) else (sandglasslaw02_NumsLaws.j1 k x0 x1 x2 x8 true))) else (sandglasslaw02_NumsLaws.j1 k x0 x1 x2 x8 false)) else (sandglasslaw02_NumsLaws.j1 k x0 x1 x2 x8 false)) else (sandglasslaw02_NumsLaws.j1 k x0 x1 x2 x8 false))
def sandglasslaw02_NumsLaws.j1 : Nat → Int → Int → Int → Int → Bool → Option (Bool)
  | 0, _, _, _, _, _ => none
  | k + 1, x0, x1, x2, x8, x75 => if x75 = true then (none) else ((nums_Mul.f k x0 1 x2).bind fun t210 => (if t210 = (mn x0 x2) then ((nums_Add.f x0 0 x2).bind fun t211 => (sandglasslaw02_NumsLaws.j2 k x0 x1 x8 (t211 != (mn x0 x2)))) else (sandglasslaw02_NumsLaws.j2 k x0 x1 x8 true)))
def sandglasslaw02_NumsLaws.j2 : Nat → Int → Int → Int → Bool → Option (Bool)
  | 0, _, _, _, _ => none
  | k + 1, x0, x1, x8, x91 => if x91 = true then (none) else (if x1 = 0 then (if x8 = 0 then ((nums_Up.f x0 x1).bind fun t212 => (if t212 = 0 then ((sandglasslaw02_live.f k).bind fun t213 => (some t213)) else (none))) else (none)) else ((nums_Up.f x0 x1).bind fun t214 => ((nums_Mul.f k t214 x1 18446744073709551615).bind fun t215 => (if t214 = 0 then (sandglasslaw02_NumsLaws.j3 k (decide (t215 ≥ x0)) true) else ((nums_Mul.f k (IntKind.u64.wrap (t214 - 1)) x1 18446744073709551615).bind fun t216 => (sandglasslaw02_NumsLaws.j3 k (decide (t215 ≥ x0)) (decide (t216 < x0))))))))
def sandglasslaw02_NumsLaws.j3 : Nat → Bool → Bool → Option (Bool)
  | 0, _, _ => none
  | k + 1, x10, x11 => if x10 = true then (if x11 = true then ((sandglasslaw02_live.f k).bind fun t217 => (some t217)) else (none)) else (none)
end
def sandglasslaw02_NumsLaws.f (k : Nat) (a0 : Int) (a1 : Int) (a2 : Int) : Option (Bool) := (nums_Add.f a0 a1 a2).bind fun t204 => ((nums_Mul.f k a0 a1 a2).bind fun t205 => ((nums_Add.f a1 a0 a2).bind fun t206 => (if t204 = t206 then ((nums_Mul.f k a1 a0 a2).bind fun t207 => (if t205 = t207 then (if t204 > a2 then (sandglasslaw02_NumsLaws.j0 k a0 a1 a2 t204 t205 true) else (sandglasslaw02_NumsLaws.j0 k a0 a1 a2 t204 t205 (decide (t205 > a2)))) else (sandglasslaw02_NumsLaws.j0 k a0 a1 a2 t204 t205 true))) else (sandglasslaw02_NumsLaws.j0 k a0 a1 a2 t204 t205 true))))
theorem sandglasslaw02_NumsLaws.mono_l : ∀ k, (∀ y0 y1 y2 y3 y4 y5, LeO (sandglasslaw02_NumsLaws.j0 k y0 y1 y2 y3 y4 y5) (sandglasslaw02_NumsLaws.j0 (k + 1) y0 y1 y2 y3 y4 y5)) ∧ (∀ y0 y1 y2 y3 y4, LeO (sandglasslaw02_NumsLaws.j1 k y0 y1 y2 y3 y4) (sandglasslaw02_NumsLaws.j1 (k + 1) y0 y1 y2 y3 y4)) ∧ (∀ y0 y1 y2 y3, LeO (sandglasslaw02_NumsLaws.j2 k y0 y1 y2 y3) (sandglasslaw02_NumsLaws.j2 (k + 1) y0 y1 y2 y3)) ∧ (∀ y0 y1, LeO (sandglasslaw02_NumsLaws.j3 k y0 y1) (sandglasslaw02_NumsLaws.j3 (k + 1) y0 y1))
  | 0 => ⟨fun _ _ _ _ _ _ r h => by simp [sandglasslaw02_NumsLaws.j0] at h, fun _ _ _ _ _ r h => by simp [sandglasslaw02_NumsLaws.j1] at h, fun _ _ _ _ r h => by simp [sandglasslaw02_NumsLaws.j2] at h, fun _ _ r h => by simp [sandglasslaw02_NumsLaws.j3] at h⟩
  | k + 1 => by
    obtain ⟨ih0, ih1, ih2, ih3⟩ := sandglasslaw02_NumsLaws.mono_l k
    refine ⟨?_, ?_, ?_, ?_⟩
    · intro y0 y1 y2 y3 y4 y5
      unfold sandglasslaw02_NumsLaws.j0
      repeat' first
      | (with_reducible exact ih0 _ _ _ _ _ _)
      | (with_reducible exact ih1 _ _ _ _ _)
      | (with_reducible exact ih2 _ _ _ _)
      | (with_reducible exact ih3 _ _)
      | (with_reducible exact nums_Mul.mono _ _ _ _)
      | (with_reducible exact sandglasslaw02_live.mono _)
      | (with_reducible exact LeO.refl _)
      | (with_reducible exact LeO.none _)
      | (with_reducible refine LeO.ite ?_ ?_)
      | (with_reducible refine LeO.bind ?_ (fun _ => ?_))
      | exact ih0 _ _ _ _ _ _
      | exact ih1 _ _ _ _ _
      | exact ih2 _ _ _ _
      | exact ih3 _ _
      | exact nums_Mul.mono _ _ _ _
      | exact sandglasslaw02_live.mono _
      | exact LeO.none _
      | refine LeO.ite ?_ ?_
      | refine LeO.bind ?_ (fun _ => ?_)
    · intro y0 y1 y2 y3 y4
      unfold sandglasslaw02_NumsLaws.j1
      repeat' first
      | (with_reducible exact ih0 _ _ _ _ _ _)
      | (with_reducible exact ih1 _ _ _ _ _)
      | (with_reducible exact ih2 _ _ _ _)
      | (with_reducible exact ih3 _ _)
      | (with_reducible exact nums_Mul.mono _ _ _ _)
      | (with_reducible exact sandglasslaw02_live.mono _)
      | (with_reducible exact LeO.refl _)
      | (with_reducible exact LeO.none _)
      | (with_reducible refine LeO.ite ?_ ?_)
      | (with_reducible refine LeO.bind ?_ (fun _ => ?_))
      | exact ih0 _ _ _ _ _ _
      | exact ih1 _ _ _ _ _
      | exact ih2 _ _ _ _
      | exact ih3 _ _
      | exact nums_Mul.mono _ _ _ _
      | exact sandglasslaw02_live.mono _
      | exact LeO.none _
      | refine LeO.ite ?_ ?_
      | refine LeO.bind ?_ (fun _ => ?_)
    · intro y0 y1 y2 y3
      unfold sandglasslaw02_NumsLaws.j2
      repeat' first
      | (with_reducible exact ih0 _ _ _ _ _ _)
      | (with_reducible exact ih1 _ _ _ _ _)
      | (with_reducible exact ih2 _ _ _ _)
      | (with_reducible exact ih3 _ _)
      | (with_reducible exact nums_Mul.mono _ _ _ _)
      | (with_reducible exact sandglasslaw02_live.mono _)
      | (with_reducible exact LeO.refl _)
      | (with_reducible exact LeO.none _)
      | (with_reducible refine LeO.ite ?_ ?_)
      | (with_reducible refine LeO.bind ?_ (fun _ => ?_))
      | exact ih0 _ _ _ _ _ _
      | exact ih1 _ _ _ _ _
      | exact ih2 _ _ _ _
      | exact ih3 _ _
      | exact nums_Mul.mono _ _ _ _
      | exact sandglasslaw02_live.mono _
      | exact LeO.none _
      | refine LeO.ite ?_ ?_
      | refine LeO.bind ?_ (fun _ => ?_)
    · intro y0 y1
      unfold sandglasslaw02_NumsLaws.j3
      repeat' first
      | (with_reducible exact ih0 _ _ _ _ _ _)
      | (with_reducible exact ih1 _ _ _ _ _)
      | (with_reducible exact ih2 _ _ _ _)
      | (with_reducible exact ih3 _ _)
      | (with_reducible exact nums_Mul.mono _ _ _ _)
      | (with_reducible exact sandglasslaw02_live.mono _)
      | (with_reducible exact LeO.refl _)
      | (with_reducible exact LeO.none _)
      | (with_reducible refine LeO.ite ?_ ?_)
      | (with_reducible refine LeO.bind ?_ (fun _ => ?_))
      | exact ih0 _ _ _ _ _ _
      | exact ih1 _ _ _ _ _
      | exact ih2 _ _ _ _
      | exact ih3 _ _
      | exact nums_Mul.mono _ _ _ _
      | exact sandglasslaw02_live.mono _
      | exact LeO.none _
      | refine LeO.ite ?_ ?_
      | refine LeO.bind ?_ (fun _ => ?_)
theorem sandglasslaw02_NumsLaws.mono : ∀ a0 a1 a2 k, LeO (sandglasslaw02_NumsLaws.f k a0 a1 a2) (sandglasslaw02_NumsLaws.f (k + 1) a0 a1 a2) := by
  intro a0 a1 a2 k
  obtain ⟨ih0, ih1, ih2, ih3⟩ := sandglasslaw02_NumsLaws.mono_l k
  unfold sandglasslaw02_NumsLaws.f
  repeat' first
      | (with_reducible exact ih0 _ _ _ _ _ _)
      | (with_reducible exact ih1 _ _ _ _ _)
      | (with_reducible exact ih2 _ _ _ _)
      | (with_reducible exact ih3 _ _)
      | (with_reducible exact nums_Mul.mono _ _ _ _)
      | (with_reducible exact sandglasslaw02_live.mono _)
      | (with_reducible exact LeO.refl _)
      | (with_reducible exact LeO.none _)
      | (with_reducible refine LeO.ite ?_ ?_)
      | (with_reducible refine LeO.bind ?_ (fun _ => ?_))
      | exact ih0 _ _ _ _ _ _
      | exact ih1 _ _ _ _ _
      | exact ih2 _ _ _ _
      | exact ih3 _ _
      | exact nums_Mul.mono _ _ _ _
      | exact sandglasslaw02_live.mono _
      | exact LeO.none _
      | refine LeO.ite ?_ ?_
      | refine LeO.bind ?_ (fun _ => ?_)
set_option maxHeartbeats 8000000 in
set_option maxRecDepth 100000 in
theorem sandglasslaw02_NumsLaws.calls (k : Nat) (a0 : Int) (a1 : Int) (a2 : Int) (r : Bool) (w : World) (h : sandglasslaw02_NumsLaws.f k a0 a1 a2 = some r) :
    Calls Try.prog 7 #[.int .u64 a0, .int .u64 a1, .int .u64 a2] w fun e w' => e = .returned (.bool r) ∧ Below w.heap.size w w' := by
  have HB := Aside0.mk (Below.refl w.heap.size w)
  have H : ((nums_Add.f a0 a1 a2).bind fun t204 => ((nums_Mul.f k a0 a1 a2).bind fun t205 => ((nums_Add.f a1 a0 a2).bind fun t206 => (if t204 = t206 then ((nums_Mul.f k a1 a0 a2).bind fun t207 => (if t205 = t207 then (if t204 > a2 then (sandglasslaw02_NumsLaws.j0 k a0 a1 a2 t204 t205 true) else (sandglasslaw02_NumsLaws.j0 k a0 a1 a2 t204 t205 (decide (t205 > a2)))) else (sandglasslaw02_NumsLaws.j0 k a0 a1 a2 t204 t205 true))) else (sandglasslaw02_NumsLaws.j0 k a0 a1 a2 t204 t205 true))))) = some r := h
  clear h
  replace H := Option.bind_eq_some_iff.mp H
  obtain ⟨t204, A40, H⟩ := H
  have A4 := Aside0.mk A40
  clear A40
  replace H := Option.bind_eq_some_iff.mp H
  obtain ⟨t205, A50, H⟩ := H
  have A5 := Aside0.mk A50
  clear A50
  have HC6 := Aside0.mk H
  clear H
  go_enter Try.func7, Try.ntmps7
  go_upto_region 3 with (first | ((with_reducible refine gate_callee (f := 9) rfl ?_); refine goesL_ (some 15) rfl rfl Try.func9 (by kernel_rfl) rfl #[.int .u64 a0, .int .u64 a1, .int .u64 a2] rfl (by (try simp only [List.map_toArray, List.map_cons, List.map_nil]); first | done | rfl | (simp only [List.length_drop, List.length_take]; rfl)) ?_; (with_reducible refine (nums_Add.calls a0 a1 a2 t204 _ A4.out).mono ?_); rintro e w7 ⟨rfl, hb⟩; refine ⟨_, rfl, ?_⟩; replace HB := Aside0.mk (below_step (bl HB) hb); (try clear hb); (try clear hb2); (try clear hk); (try clear hi)) | ((with_reducible refine gate_callee (f := 11) rfl ?_); refine goesL_ (some 19) rfl rfl Try.func11 (by kernel_rfl) rfl #[.int .u64 a0, .int .u64 a1, .int .u64 a2] rfl (by (try simp only [List.map_toArray, List.map_cons, List.map_nil]); first | done | rfl | (simp only [List.length_drop, List.length_take]; rfl)) ?_; (with_reducible refine (nums_Mul.calls k a0 a1 a2 t205 _ A5.out).mono ?_); rintro e w8 ⟨rfl, hb⟩; refine ⟨_, rfl, ?_⟩; replace HB := Aside0.mk (below_step (bl HB) hb); (try clear hb); (try clear hb2); (try clear hk); (try clear hi)))
  (try simp only [Act.put, List.setIfInBounds_toArray, List.set_cons_zero, List.set_cons_succ])
  go_cut [43] (fun v43 wc => ∃ (kq : Nat) (x43_5 : Bool), v43 = .bool x43_5 ∧ Aside0 (sandglasslaw02_NumsLaws.j0 kq a0 a1 a2 t204 t205 x43_5 = some r) ∧ Aside0 (kq ≤ k) ∧ Aside0 (Below w.heap.size w wc))
  case first =>
    have H := HC6.out
    clear HC6
    replace H := Option.bind_eq_some_iff.mp H
    obtain ⟨t206, A90, H⟩ := H
    have A9 := Aside0.mk A90
    clear A90
    by_cases c10 : t204 = t206
    · rw [if_pos c10] at H
      have c10b0 : (t204 == t206) = true := beq_iff_eq.mpr c10
      have c10b1 : (t204 != t206) = false := bne_eq_false_iff_eq.mpr c10
      clear c10
      (first | rw [c10b0] | (simp only [i64_w, i32_w]; rw [c10b0]) | skip)
      replace H := Option.bind_eq_some_iff.mp H
      obtain ⟨t207, A110, H⟩ := H
      have A11 := Aside0.mk A110
      clear A110
      by_cases c12 : t205 = t207
      · rw [if_pos c12] at H
        have c12b0 : (t205 == t207) = true := beq_iff_eq.mpr c12
        have c12b1 : (t205 != t207) = false := bne_eq_false_iff_eq.mpr c12
        clear c12
        by_cases c13 : t204 > a2
        · rw [if_pos c13] at H
          have c13b0 : decide (a2 < t204) = true := decide_eq_true c13
          clear c13
          have H' := Aside0.mk H
          clear H
          go_wp2_with (first | ((with_reducible refine gate_callee (f := 9) rfl ?_); refine goesL_ (some 24) rfl rfl Try.func9 (by kernel_rfl) rfl #[.int .u64 a1, .int .u64 a0, .int .u64 a2] rfl (by (try simp only [List.map_toArray, List.map_cons, List.map_nil]); first | done | rfl | (simp only [List.length_drop, List.length_take]; rfl)) ?_; (with_reducible refine (nums_Add.calls a1 a0 a2 t206 _ A9.out).mono ?_); rintro e w14 ⟨rfl, hb⟩; refine ⟨_, rfl, ?_⟩; replace HB := Aside0.mk (below_step (bl HB) hb); (try clear hb); (try clear hb2); (try clear hk); (try clear hi)) | (go_at_call 11; (with_reducible refine (nums_Mul.calls k a1 a0 a2 t207 _ A11.out).mono ?_); rintro e w15 ⟨rfl, hb⟩; replace HB := Aside0.mk (below_step (bl HB) hb); (try clear hb); (try clear hb2); (try clear hk); (try clear hi)))
          go_meet
          case rel => exact ⟨_, (true), (by first | (with_reducible rfl) | rfl | (simp; done) | (simp [*]; done)), H', ⟨by first | omega | exact Nat.le_refl _⟩, ⟨bl HB⟩⟩
        · rw [if_neg c13] at H
          have c13b0 : decide (a2 < t204) = false := decide_eq_false c13
          clear c13
          have H' := Aside0.mk H
          clear H
          go_wp2_with (first | ((with_reducible refine gate_callee (f := 9) rfl ?_); refine goesL_ (some 24) rfl rfl Try.func9 (by kernel_rfl) rfl #[.int .u64 a1, .int .u64 a0, .int .u64 a2] rfl (by (try simp only [List.map_toArray, List.map_cons, List.map_nil]); first | done | rfl | (simp only [List.length_drop, List.length_take]; rfl)) ?_; (with_reducible refine (nums_Add.calls a1 a0 a2 t206 _ A9.out).mono ?_); rintro e w16 ⟨rfl, hb⟩; refine ⟨_, rfl, ?_⟩; replace HB := Aside0.mk (below_step (bl HB) hb); (try clear hb); (try clear hb2); (try clear hk); (try clear hi)) | (go_at_call 11; (with_reducible refine (nums_Mul.calls k a1 a0 a2 t207 _ A11.out).mono ?_); rintro e w17 ⟨rfl, hb⟩; replace HB := Aside0.mk (below_step (bl HB) hb); (try clear hb); (try clear hb2); (try clear hk); (try clear hi)))
          go_meet
          case rel => exact ⟨_, (decide (t205 > a2)), (by first | (with_reducible rfl) | rfl | (simp; done) | (simp [*]; done)), H', ⟨by first | omega | exact Nat.le_refl _⟩, ⟨bl HB⟩⟩
      · rw [if_neg c12] at H
        have c12b0 : (t205 == t207) = false := beq_eq_false_iff_ne.mpr c12
        have c12b1 : (t205 != t207) = true := bne_iff_ne.mpr c12
        have H' := Aside0.mk H
        clear H
        go_wp2_with (first | ((with_reducible refine gate_callee (f := 9) rfl ?_); refine goesL_ (some 24) rfl rfl Try.func9 (by kernel_rfl) rfl #[.int .u64 a1, .int .u64 a0, .int .u64 a2] rfl (by (try simp only [List.map_toArray, List.map_cons, List.map_nil]); first | done | rfl | (simp only [List.length_drop, List.length_take]; rfl)) ?_; (with_reducible refine (nums_Add.calls a1 a0 a2 t206 _ A9.out).mono ?_); rintro e w18 ⟨rfl, hb⟩; refine ⟨_, rfl, ?_⟩; replace HB := Aside0.mk (below_step (bl HB) hb); (try clear hb); (try clear hb2); (try clear hk); (try clear hi)) | (go_at_call 11; (with_reducible refine (nums_Mul.calls k a1 a0 a2 t207 _ A11.out).mono ?_); rintro e w19 ⟨rfl, hb⟩; replace HB := Aside0.mk (below_step (bl HB) hb); (try clear hb); (try clear hb2); (try clear hk); (try clear hi)))
        go_meet
        case rel => exact ⟨_, (true), (by first | (with_reducible rfl) | rfl | (simp; done) | (simp [*]; done)), H', ⟨by first | omega | exact Nat.le_refl _⟩, ⟨bl HB⟩⟩
    · rw [if_neg c10] at H
      have c10b0 : (t204 == t206) = false := beq_eq_false_iff_ne.mpr c10
      have c10b1 : (t204 != t206) = true := bne_iff_ne.mpr c10
      (first | rw [c10b0] | (simp only [i64_w, i32_w]; rw [c10b0]) | skip)
      have H' := Aside0.mk H
      clear H
      go_wp2_with (first | ((with_reducible refine gate_callee (f := 9) rfl ?_); refine goesL_ (some 24) rfl rfl Try.func9 (by kernel_rfl) rfl #[.int .u64 a1, .int .u64 a0, .int .u64 a2] rfl (by (try simp only [List.map_toArray, List.map_cons, List.map_nil]); first | done | rfl | (simp only [List.length_drop, List.length_take]; rfl)) ?_; (with_reducible refine (nums_Add.calls a1 a0 a2 t206 _ A9.out).mono ?_); rintro e w20 ⟨rfl, hb⟩; refine ⟨_, rfl, ?_⟩; replace HB := Aside0.mk (below_step (bl HB) hb); (try clear hb); (try clear hb2); (try clear hk); (try clear hi)))
      go_meet
      case rel => exact ⟨_, (true), (by first | (with_reducible rfl) | rfl | (simp; done) | (simp [*]; done)), H', ⟨by first | omega | exact Nat.le_refl _⟩, ⟨bl HB⟩⟩
  case rest =>
    clear HC6
    try clear c1
    try clear p2
    try clear c7
    try clear c9
    try clear c10
    try clear c10b0
    try clear c10b1
    try clear c11
    try clear c12
    try clear c12b0
    try clear c12b1
    try clear c13
    try clear c13b0
    obtain ⟨kq, x43_5, rfl, HA, HJ5, HB⟩ := hcut
    cases kq with
    | zero => exact absurd HA.out (by simp [sandglasslaw02_NumsLaws.j0])
    | succ kj5 =>
      have H := HA.out
      clear HA
      simp only [sandglasslaw02_NumsLaws.j0] at H
      by_cases c21 : x43_5 = true
      · subst c21
        rw [if_pos rfl] at H
        exact absurd H (by simp)
      · replace c21 := Bool.eq_false_iff.mpr c21
        subst c21
        rw [if_neg (show ¬ (false = true) by decide)] at H
        have HC22 := Aside0.mk H
        clear H
        go_upto_region 5 with (fail)
        go_cut [75] (fun v75 wc => ∃ (kq : Nat) (x75_21 : Bool), v75 = .bool x75_21 ∧ Aside0 (sandglasslaw02_NumsLaws.j1 kq a0 a1 a2 t205 x75_21 = some r) ∧ Aside0 (kq ≤ kj5) ∧ Aside0 (Below w.heap.size w wc))
        case first =>
          have H := HC22.out
          clear HC22
          by_cases c23 : a0 ≤ a2
          · rw [if_pos c23] at H
            have c23b0 : decide (a0 ≤ a2) = true := decide_eq_true c23
            clear c23
            (first | rw [c23b0] | (simp only [i64_w, i32_w]; rw [c23b0]) | skip)
            by_cases c24 : a1 ≤ a2
            · rw [if_pos c24] at H
              have c24b0 : decide (a1 ≤ a2) = true := decide_eq_true c24
              clear c24
              by_cases c25 : t204 < a2
              · rw [if_pos c25] at H
                have c25b0 : decide (t204 < a2) = true := decide_eq_true c25
                clear c25
                replace H := Option.bind_eq_some_iff.mp H
                obtain ⟨t208, A260, H⟩ := H
                have A26 := Aside0.mk A260
                clear A260
                by_cases c27 : t208 = a1
                · rw [if_pos c27] at H
                  have c27b0 : (t208 == a1) = true := beq_iff_eq.mpr c27
                  have c27b1 : (t208 != a1) = false := bne_eq_false_iff_eq.mpr c27
                  clear c27
                  replace H := Option.bind_eq_some_iff.mp H
                  obtain ⟨t209, A280, H⟩ := H
                  have A28 := Aside0.mk A280
                  clear A280
                  by_cases c29 : t209 = a0
                  · rw [if_pos c29] at H
                    have c29b0 : (t209 == a0) = true := beq_iff_eq.mpr c29
                    have c29b1 : (t209 != a0) = false := bne_eq_false_iff_eq.mpr c29
                    clear c29
                    have H' := Aside0.mk H
                    clear H
                    go_wp2_with (first | (go_at_call 13; (with_reducible refine (nums_Sub.calls t204 a0 t208 _ A26.out).mono ?_); rintro e w30 ⟨rfl, hb⟩; replace HB := Aside0.mk (below_step (bl HB) hb); (try clear hb); (try clear hb2); (try clear hk); (try clear hi)) | (go_at_call 13; (with_reducible refine (nums_Sub.calls t204 a1 t209 _ A28.out).mono ?_); rintro e w31 ⟨rfl, hb⟩; replace HB := Aside0.mk (below_step (bl HB) hb); (try clear hb); (try clear hb2); (try clear hk); (try clear hi)))
                    go_meet
                    case rel => exact ⟨_, (decide (t204 < a0)), (by first | (with_reducible rfl) | rfl | (simp; done) | (simp [*]; done)), H', ⟨by have := HJ5.out; first | omega | exact Nat.le_refl _⟩, ⟨bl HB⟩⟩
                  · rw [if_neg c29] at H
                    have c29b0 : (t209 == a0) = false := beq_eq_false_iff_ne.mpr c29
                    have c29b1 : (t209 != a0) = true := bne_iff_ne.mpr c29
                    have H' := Aside0.mk H
                    clear H
                    go_wp2_with (first | (go_at_call 13; (with_reducible refine (nums_Sub.calls t204 a0 t208 _ A26.out).mono ?_); rintro e w32 ⟨rfl, hb⟩; replace HB := Aside0.mk (below_step (bl HB) hb); (try clear hb); (try clear hb2); (try clear hk); (try clear hi)) | (go_at_call 13; (with_reducible refine (nums_Sub.calls t204 a1 t209 _ A28.out).mono ?_); rintro e w33 ⟨rfl, hb⟩; replace HB := Aside0.mk (below_step (bl HB) hb); (try clear hb); (try clear hb2); (try clear hk); (try clear hi)))
                    go_meet
                    case rel => exact ⟨_, (true), (by first | (with_reducible rfl) | rfl | (simp; done) | (simp [*]; done)), H', ⟨by have := HJ5.out; first | omega | exact Nat.le_refl _⟩, ⟨bl HB⟩⟩
                · rw [if_neg c27] at H
                  have c27b0 : (t208 == a1) = false := beq_eq_false_iff_ne.mpr c27
                  have c27b1 : (t208 != a1) = true := bne_iff_ne.mpr c27
                  have H' := Aside0.mk H
                  clear H
                  go_wp2_with (first | (go_at_call 13; (with_reducible refine (nums_Sub.calls t204 a0 t208 _ A26.out).mono ?_); rintro e w34 ⟨rfl, hb⟩; replace HB := Aside0.mk (below_step (bl HB) hb); (try clear hb); (try clear hb2); (try clear hk); (try clear hi)))
                  go_meet
                  case rel => exact ⟨_, (true), (by first | (with_reducible rfl) | rfl | (simp; done) | (simp [*]; done)), H', ⟨by have := HJ5.out; first | omega | exact Nat.le_refl _⟩, ⟨bl HB⟩⟩
              · rw [if_neg c25] at H
                have c25b0 : decide (t204 < a2) = false := decide_eq_false c25
                clear c25
                have H' := Aside0.mk H
                clear H
                go_wp2
                go_meet
                case rel => exact ⟨_, (false), (by first | (with_reducible rfl) | rfl | (simp; done) | (simp [*]; done)), H', ⟨by have := HJ5.out; first | omega | exact Nat.le_refl _⟩, ⟨bl HB⟩⟩
            · rw [if_neg c24] at H
              have c24b0 : decide (a1 ≤ a2) = false := decide_eq_false c24
              clear c24
              have H' := Aside0.mk H
              clear H
              go_wp2
              go_meet
              case rel => exact ⟨_, (false), (by first | (with_reducible rfl) | rfl | (simp; done) | (simp [*]; done)), H', ⟨by have := HJ5.out; first | omega | exact Nat.le_refl _⟩, ⟨bl HB⟩⟩
          · rw [if_neg c23] at H
            have c23b0 : decide (a0 ≤ a2) = false := decide_eq_false c23
            clear c23
            (first | rw [c23b0] | (simp only [i64_w, i32_w]; rw [c23b0]) | skip)
            have H' := Aside0.mk H
            clear H
            go_wp2
            go_meet
            case rel => exact ⟨_, (false), (by first | (with_reducible rfl) | rfl | (simp; done) | (simp [*]; done)), H', ⟨by have := HJ5.out; first | omega | exact Nat.le_refl _⟩, ⟨bl HB⟩⟩
        case rest =>
          clear HC22
          try clear c1
          try clear c2
          try clear p2
          try clear c7
          try clear c9
          try clear c10
          try clear c10b0
          try clear c10b1
          try clear c11
          try clear c12
          try clear c12b0
          try clear c12b1
          try clear c13
          try clear c13b0
          try clear c21
          try clear c23
          try clear c23b0
          try clear c24
          try clear c24b0
          try clear c25
          try clear c25b0
          try clear c27
          try clear c27b0
          try clear c27b1
          try clear c29
          try clear c29b0
          try clear c29b1
          try clear p2
          obtain ⟨kq, x75_21, rfl, HA, HJ21, HB⟩ := hcut
          cases kq with
          | zero => exact absurd HA.out (by simp [sandglasslaw02_NumsLaws.j1])
          | succ kj21 =>
            have H := HA.out
            clear HA
            simp only [sandglasslaw02_NumsLaws.j1] at H
            by_cases c35 : x75_21 = true
            · subst c35
              rw [if_pos rfl] at H
              exact absurd H (by simp)
            · replace c35 := Bool.eq_false_iff.mpr c35
              subst c35
              rw [if_neg (show ¬ (false = true) by decide)] at H
              have HC36 := Aside0.mk H
              clear H
              go_upto_region 7 with (fail)
              go_cut [91] (fun v91 wc => ∃ (kq : Nat) (x91_35 : Bool), v91 = .bool x91_35 ∧ Aside0 (sandglasslaw02_NumsLaws.j2 kq a0 a1 t205 x91_35 = some r) ∧ Aside0 (kq ≤ kj21) ∧ Aside0 (Below w.heap.size w wc))
              case first =>
                have H := HC36.out
                clear HC36
                replace H := Option.bind_eq_some_iff.mp H
                obtain ⟨t210, A370, H⟩ := H
                have A37 := Aside0.mk A370
                clear A370
                obtain ⟨ji38, hji38⟩ : ∃ j_ : Int, (mn a0 a2) = j_ := ⟨_, rfl⟩
                replace H : (if t210 = (ji38) then ((nums_Add.f a0 0 a2).bind fun t211 => (sandglasslaw02_NumsLaws.j2 kj21 a0 a1 t205 (t211 != (ji38)))) else (sandglasslaw02_NumsLaws.j2 kj21 a0 a1 t205 true)) = some r := by first | (rw [hji38] at H; exact H) | (simp only [hji38] at H ⊢; exact H)
                (try rw [hji38] at A37)
                have hji38_ : (if a2 < a0 then a2 else a0) = ji38 := hji38
                by_cases c39 : t210 = (ji38)
                · rw [if_pos c39] at H
                  have c39b0 : (t210 == (ji38)) = true := beq_iff_eq.mpr c39
                  have c39b1 : (t210 != (ji38)) = false := bne_eq_false_iff_eq.mpr c39
                  clear c39
                  (first | rw [c39b0] | (simp only [i64_w, i32_w]; rw [c39b0]) | skip)
                  replace H := Option.bind_eq_some_iff.mp H
                  obtain ⟨t211, A400, H⟩ := H
                  have A40 := Aside0.mk A400
                  clear A400
                  have H' := Aside0.mk H
                  clear H
                  go_wp2_with (first | ((with_reducible refine gate_callee (f := 11) rfl ?_); refine goesL_ (some 78) rfl rfl Try.func11 (by kernel_rfl) rfl #[.int .u64 a0, .int .u64 1, .int .u64 a2] rfl (by (try simp only [List.map_toArray, List.map_cons, List.map_nil]); first | done | rfl | (simp only [List.length_drop, List.length_take]; rfl)) ?_; (with_reducible refine (nums_Mul.calls kj21 a0 1 a2 t210 _ A37.out).mono ?_); rintro e w42 ⟨rfl, hb⟩; refine ⟨_, rfl, ?_⟩; replace HB := Aside0.mk (below_step (bl HB) hb); (try clear hb); (try clear hb2); (try clear hk); (try clear hi)) | (go_at_call 9; (with_reducible refine (nums_Add.calls a0 0 a2 t211 _ A40.out).mono ?_); rintro e w43 ⟨rfl, hb⟩; replace HB := Aside0.mk (below_step (bl HB) hb); (try clear hb); (try clear hb2); (try clear hk); (try clear hi)))
                  go_meet
                  case rel => exact ⟨_, ((t211 != (ji38))), (by first | (with_reducible rfl) | (simp only [← hji38]; with_reducible rfl) | (simp only [← hji38]; done) | rfl | (simp; done) | (simp only [← hji38] <;> (first | rfl | simp)) | (simp [*]; done)), H', ⟨by have := HJ5.out; have := HJ21.out; first | omega | exact Nat.le_refl _⟩, ⟨bl HB⟩⟩
                · rw [if_neg c39] at H
                  have c39b0 : (t210 == (ji38)) = false := beq_eq_false_iff_ne.mpr c39
                  have c39b1 : (t210 != (ji38)) = true := bne_iff_ne.mpr c39
                  (first | rw [c39b0] | (simp only [i64_w, i32_w]; rw [c39b0]) | skip)
                  have H' := Aside0.mk H
                  clear H
                  go_wp2_with (first | ((with_reducible refine gate_callee (f := 11) rfl ?_); refine goesL_ (some 78) rfl rfl Try.func11 (by kernel_rfl) rfl #[.int .u64 a0, .int .u64 1, .int .u64 a2] rfl (by (try simp only [List.map_toArray, List.map_cons, List.map_nil]); first | done | rfl | (simp only [List.length_drop, List.length_take]; rfl)) ?_; (with_reducible refine (nums_Mul.calls kj21 a0 1 a2 t210 _ A37.out).mono ?_); rintro e w44 ⟨rfl, hb⟩; refine ⟨_, rfl, ?_⟩; replace HB := Aside0.mk (below_step (bl HB) hb); (try clear hb); (try clear hb2); (try clear hk); (try clear hi)))
                  go_meet
                  case rel => exact ⟨_, (true), (by first | (with_reducible rfl) | rfl | (simp; done) | (simp [*]; done)), H', ⟨by have := HJ5.out; have := HJ21.out; first | omega | exact Nat.le_refl _⟩, ⟨bl HB⟩⟩
              case rest =>
                clear HC36
                try clear c1
                try clear c2
                try clear p2
                try clear c3
                try clear c4
                try clear c7
                try clear c9
                try clear c10
                try clear c10b0
                try clear c10b1
                try clear c11
                try clear c12
                try clear c12b0
                try clear c12b1
                try clear c13
                try clear c13b0
                try clear c21
                try clear c23
                try clear c23b0
                try clear c24
                try clear c24b0
                try clear c25
                try clear c25b0
                try clear c27
                try clear c27b0
                try clear c27b1
                try clear c29
                try clear c29b0
                try clear c29b1
                try clear c35
                try clear c39
                try clear c39b0
                try clear c39b1
                try clear c41
                try clear c41b0
                try clear p2
                obtain ⟨kq, x91_35, rfl, HA, HJ35, HB⟩ := hcut
                cases kq with
                | zero => exact absurd HA.out (by simp [sandglasslaw02_NumsLaws.j2])
                | succ kj35 =>
                  have H := HA.out
                  clear HA
                  simp only [sandglasslaw02_NumsLaws.j2] at H
                  by_cases c45 : x91_35 = true
                  · subst c45
                    rw [if_pos rfl] at H
                    exact absurd H (by simp)
                  · replace c45 := Bool.eq_false_iff.mpr c45
                    subst c45
                    rw [if_neg (show ¬ (false = true) by decide)] at H
                    by_cases c46 : a1 = 0
                    · rw [if_pos c46] at H
                      have c46b0 : (a1 == 0) = true := beq_iff_eq.mpr c46
                      have c46b1 : (a1 != 0) = false := bne_eq_false_iff_eq.mpr c46
                      clear c46
                      by_cases c47 : t205 = 0
                      · rw [if_pos c47] at H
                        have c47b0 : (t205 == 0) = true := beq_iff_eq.mpr c47
                        have c47b1 : (t205 != 0) = false := bne_eq_false_iff_eq.mpr c47
                        clear c47
                        replace H := Option.bind_eq_some_iff.mp H
                        obtain ⟨t212, A480, H⟩ := H
                        have A48 := Aside0.mk A480
                        clear A480
                        by_cases c49 : t212 = 0
                        · rw [if_pos c49] at H
                          have c49b0 : (t212 == 0) = true := beq_iff_eq.mpr c49
                          have c49b1 : (t212 != 0) = false := bne_eq_false_iff_eq.mpr c49
                          clear c49
                          replace H := Option.bind_eq_some_iff.mp H
                          obtain ⟨t213, A500, H⟩ := H
                          have A50 := Aside0.mk A500
                          clear A500
                          obtain rfl := Option.some.inj H
                          go_wp2_with (first | (go_at_call 15; (with_reducible refine (nums_Up.calls a0 a1 t212 _ A48.out).mono ?_); rintro e w51 ⟨rfl, hb⟩; replace HB := Aside0.mk (below_step (bl HB) hb); (try clear hb); (try clear hb2); (try clear hk); (try clear hi)) | (go_at_call 17; (with_reducible refine (sandglasslaw02_live.calls kj35  t213 _ A50.out).mono ?_); rintro e w52 ⟨rfl, hb⟩; replace HB := Aside0.mk (below_step (bl HB) hb); (try clear hb); (try clear hb2); (try clear hk); (try clear hi)))
                          go_ret
                          exact ⟨by first | (with_reducible rfl) | rfl | (simp [errW_none, errW_some] <;> rfl) | (simp [*, errW_none, errW_some] <;> rfl), bl HB⟩
                        · rw [if_neg c49] at H
                          exact absurd H (by simp)
                      · rw [if_neg c47] at H
                        exact absurd H (by simp)
                    · rw [if_neg c46] at H
                      have c46b0 : (a1 == 0) = false := beq_eq_false_iff_ne.mpr c46
                      have c46b1 : (a1 != 0) = true := bne_iff_ne.mpr c46
                      replace H := Option.bind_eq_some_iff.mp H
                      obtain ⟨t214, A530, H⟩ := H
                      have A53 := Aside0.mk A530
                      clear A530
                      replace H := Option.bind_eq_some_iff.mp H
                      obtain ⟨t215, A540, H⟩ := H
                      have A54 := Aside0.mk A540
                      clear A540
                      have HC55 := Aside0.mk H
                      clear H
                      go_upto_region 13 with (first | ((with_reducible refine gate_callee (f := 15) rfl ?_); refine goesL_ (some 107) rfl rfl Try.func15 (by kernel_rfl) rfl #[.int .u64 a0, .int .u64 a1] rfl (by (try simp only [List.map_toArray, List.map_cons, List.map_nil]); first | done | rfl | (simp only [List.length_drop, List.length_take]; rfl)) ?_; (with_reducible refine (nums_Up.calls a0 a1 t214 _ A53.out).mono ?_); rintro e w56 ⟨rfl, hb⟩; refine ⟨_, rfl, ?_⟩; replace HB := Aside0.mk (below_step (bl HB) hb); (try clear hb); (try clear hb2); (try clear hk); (try clear hi)) | ((with_reducible refine gate_callee (f := 11) rfl ?_); refine goesL_ (some 110) rfl rfl Try.func11 (by kernel_rfl) rfl #[.int .u64 t214, .int .u64 a1, .int .u64 18446744073709551615] rfl (by (try simp only [List.map_toArray, List.map_cons, List.map_nil]); first | done | rfl | (simp only [List.length_drop, List.length_take]; rfl)) ?_; (with_reducible refine (nums_Mul.calls kj35 t214 a1 18446744073709551615 t215 _ A54.out).mono ?_); rintro e w57 ⟨rfl, hb⟩; refine ⟨_, rfl, ?_⟩; replace HB := Aside0.mk (below_step (bl HB) hb); (try clear hb); (try clear hb2); (try clear hk); (try clear hi)))
                      (try simp only [Act.put, List.setIfInBounds_toArray, List.set_cons_zero, List.set_cons_succ])
                      go_cut [11] (fun v11 wc => ∃ (kq : Nat) (x11_54 : Bool), v11 = .bool x11_54 ∧ Aside0 (sandglasslaw02_NumsLaws.j3 kq (decide (t215 ≥ a0)) x11_54 = some r) ∧ Aside0 (kq ≤ kj35) ∧ Aside0 (Below w.heap.size w wc))
                      case first =>
                        have H := HC55.out
                        clear HC55
                        by_cases c58 : t214 = 0
                        · rw [if_pos c58] at H
                          have c58b0 : (t214 == 0) = true := beq_iff_eq.mpr c58
                          have c58b1 : (t214 != 0) = false := bne_eq_false_iff_eq.mpr c58
                          clear c58
                          (first | rw [c58b0] | (simp only [i64_w, i32_w]; rw [c58b0]) | skip)
                          have H' := Aside0.mk H
                          clear H
                          go_wp2
                          go_meet
                          case rel => exact ⟨_, (true), (by first | (with_reducible rfl) | rfl | (simp; done) | (simp [*]; done)), H', ⟨by have := HJ5.out; have := HJ21.out; have := HJ35.out; first | omega | exact Nat.le_refl _⟩, ⟨bl HB⟩⟩
                        · rw [if_neg c58] at H
                          have c58b0 : (t214 == 0) = false := beq_eq_false_iff_ne.mpr c58
                          have c58b1 : (t214 != 0) = true := bne_iff_ne.mpr c58
                          (first | rw [c58b0] | (simp only [i64_w, i32_w]; rw [c58b0]) | skip)
                          replace H := Option.bind_eq_some_iff.mp H
                          obtain ⟨t216, A590, H⟩ := H
                          have A59 := Aside0.mk A590
                          clear A590
                          have H' := Aside0.mk H
                          clear H
                          go_wp2_with (first | (go_at_call 11; (with_reducible refine (nums_Mul.calls kj35 (IntKind.u64.wrap (t214 - 1)) a1 18446744073709551615 t216 _ A59.out).mono ?_); rintro e w60 ⟨rfl, hb⟩; replace HB := Aside0.mk (below_step (bl HB) hb); (try clear hb); (try clear hb2); (try clear hk); (try clear hi)))
                          go_meet
                          case rel => exact ⟨_, (decide (t216 < a0)), (by first | (with_reducible rfl) | rfl | (simp; done) | (simp [*]; done)), H', ⟨by have := HJ5.out; have := HJ21.out; have := HJ35.out; first | omega | exact Nat.le_refl _⟩, ⟨bl HB⟩⟩
                      case rest =>
                        clear HC55
                        try clear c1
                        try clear c2
                        try clear p2
                        try clear c3
                        try clear c4
                        try clear c5
                        try clear c7
                        try clear c9
                        try clear c10
                        try clear c10b0
                        try clear c10b1
                        try clear c11
                        try clear c12
                        try clear c12b0
                        try clear c12b1
                        try clear c13
                        try clear c13b0
                        try clear c15
                        try clear c21
                        try clear c23
                        try clear c23b0
                        try clear c24
                        try clear c24b0
                        try clear c25
                        try clear c25b0
                        try clear c27
                        try clear c27b0
                        try clear c27b1
                        try clear c29
                        try clear c29b0
                        try clear c29b1
                        try clear c35
                        try clear c39
                        try clear c39b0
                        try clear c39b1
                        try clear c41
                        try clear c41b0
                        try clear c45
                        try clear c46
                        try clear c46b0
                        try clear c46b1
                        try clear c47
                        try clear c47b0
                        try clear c47b1
                        try clear c49
                        try clear c49b0
                        try clear c49b1
                        try clear c58
                        try clear c58b0
                        try clear c58b1
                        try clear p2
                        obtain ⟨kq, x11_54, rfl, HA, HJ54, HB⟩ := hcut
                        cases kq with
                        | zero => exact absurd HA.out (by simp [sandglasslaw02_NumsLaws.j3])
                        | succ kj54 =>
                          have H := HA.out
                          clear HA
                          simp only [sandglasslaw02_NumsLaws.j3] at H
                          by_cases c61 : (decide (t215 ≥ a0)) = true
                          · rw [if_pos c61] at H
                            have c61b0 : (decide (t215 ≥ a0)) = true := c61
                            clear c61
                            by_cases c62 : x11_54 = true
                            · subst c62
                              rw [if_pos rfl] at H
                              replace H := Option.bind_eq_some_iff.mp H
                              obtain ⟨t217, A630, H⟩ := H
                              have A63 := Aside0.mk A630
                              clear A630
                              obtain rfl := Option.some.inj H
                              go_wp2_with (first | (go_at_call 17; (with_reducible refine (sandglasslaw02_live.calls kj54  t217 _ A63.out).mono ?_); rintro e w64 ⟨rfl, hb⟩; replace HB := Aside0.mk (below_step (bl HB) hb); (try clear hb); (try clear hb2); (try clear hk); (try clear hi)))
                              go_ret
                              exact ⟨by first | (with_reducible rfl) | rfl | (simp [errW_none, errW_some] <;> rfl) | (simp [*, errW_none, errW_some] <;> rfl), bl HB⟩
                            · replace c62 := Bool.eq_false_iff.mpr c62
                              subst c62
                              rw [if_neg (show ¬ (false = true) by decide)] at H
                              exact absurd H (by simp)
                          · rw [if_neg c61] at H
                            exact absurd H (by simp)

end Go.Proofs.Ytbjnkhlepmocjaa.Q
