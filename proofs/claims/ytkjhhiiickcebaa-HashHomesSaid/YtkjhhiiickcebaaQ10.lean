-- Laid by wip/tools/hprint.py, a program of this repo, over the kit's print; not a text of print.sh.
import Derived.Test.YtkjhhiiickcebaaQ0
import Derived.Test.YtkjhhiiickcebaaQ6
import Derived.Test.YtkjhhiiickcebaaQ7
namespace Go.Proofs.Ytkjhhiiickcebaa.Q
open Go.RowKit Go.Proofs.Ytkjhhiiickcebaa.Zip Go.Proofs.YtkjhhiiickcebaaW.PrintWords Go.Proofs.YtkjhhiiickcebaaW.PrintLast Go.Proofs.YtkjhhiiickcebaaW.PrintMore
attribute [local go_sem] max2_int min2_int max_two min_two max_three min_three max_four min_four   -- for this text's walks alone
set_option linter.unusedVariables false
set_option linter.unusedSimpArgs false

/-! ### sandglasslaw03_HashHomes: function 5 -/
def sandglasslaw03_HashHomes.j0 : Nat → Int → Int → Bool → Option (Bool)
  | 0, _, _, _ => none
  | k + 1, x0, x1, x12 => if x12 = true then (if x1 = 62 then ((sandglasslaw03_live.f k).bind fun t127 => (some t127)) else ((hash_Home.f k x0 x1).bind fun t128 => (if t128 = 0 then ((sandglasslaw03_live.f k).bind fun t129 => (some t129)) else (none)))) else ((hash_Home.f k x0 x1).bind fun t130 => ((hash_Home.f k x0 (wrap64 (x1 + 1))).bind fun t131 => (if t130 ≥ 0 then (if 0 ≤ (IntKind.u64.wrap (x1)) then (if t130 < (shl .i64 1 (IntKind.u64.wrap (x1))) then (if t131 = (wrap64 (2 * t130)) then ((sandglasslaw03_live.f k).bind fun t132 => (some t132)) else (if t131 = (wrap64 ((wrap64 (2 * t130)) + 1)) then ((sandglasslaw03_live.f k).bind fun t133 => (some t133)) else (none))) else (none)) else (none)) else (none))))
def sandglasslaw03_HashHomes.f (k : Nat) (a0 : Int) (a1 : Int) : Option (Bool) := if a1 < 1 then (sandglasslaw03_HashHomes.j0 k a0 a1 true) else (sandglasslaw03_HashHomes.j0 k a0 a1 (decide (a1 > 61)))
theorem sandglasslaw03_HashHomes.mono_l : ∀ k, (∀ y0 y1 y2, LeO (sandglasslaw03_HashHomes.j0 k y0 y1 y2) (sandglasslaw03_HashHomes.j0 (k + 1) y0 y1 y2))
  | 0 => fun _ _ _ r h => by simp [sandglasslaw03_HashHomes.j0] at h
  | k + 1 => by
    have ih0 := sandglasslaw03_HashHomes.mono_l k
    · intro y0 y1 y2
      unfold sandglasslaw03_HashHomes.j0
      repeat' first
      | (with_reducible exact ih0 _ _ _)
      | (with_reducible exact hash_Home.mono _ _ _)
      | (with_reducible exact sandglasslaw03_live.mono _)
      | (with_reducible exact LeO.refl _)
      | (with_reducible exact LeO.none _)
      | (with_reducible refine LeO.ite ?_ ?_)
      | (with_reducible refine LeO.bind ?_ (fun _ => ?_))
      | exact ih0 _ _ _
      | exact hash_Home.mono _ _ _
      | exact sandglasslaw03_live.mono _
      | exact LeO.none _
      | refine LeO.ite ?_ ?_
      | refine LeO.bind ?_ (fun _ => ?_)
theorem sandglasslaw03_HashHomes.mono : ∀ a0 a1 k, LeO (sandglasslaw03_HashHomes.f k a0 a1) (sandglasslaw03_HashHomes.f (k + 1) a0 a1) := by
  intro a0 a1 k
  have ih0 := sandglasslaw03_HashHomes.mono_l k
  unfold sandglasslaw03_HashHomes.f
  repeat' first
      | (with_reducible exact ih0 _ _ _)
      | (with_reducible exact hash_Home.mono _ _ _)
      | (with_reducible exact sandglasslaw03_live.mono _)
      | (with_reducible exact LeO.refl _)
      | (with_reducible exact LeO.none _)
      | (with_reducible refine LeO.ite ?_ ?_)
      | (with_reducible refine LeO.bind ?_ (fun _ => ?_))
      | exact ih0 _ _ _
      | exact hash_Home.mono _ _ _
      | exact sandglasslaw03_live.mono _
      | exact LeO.none _
      | refine LeO.ite ?_ ?_
      | refine LeO.bind ?_ (fun _ => ?_)
set_option maxHeartbeats 8000000 in
set_option maxRecDepth 100000 in
theorem sandglasslaw03_HashHomes.calls (k : Nat) (a0 : Int) (a1 : Int) (r : Bool) (w : World) (h : sandglasslaw03_HashHomes.f k a0 a1 = some r) :
    Calls Try.prog 5 #[.int .u64 a0, .int .i64 a1] w fun e w' => e = .returned (.bool r) ∧ Below w.heap.size w w' := by
  have HB := Aside0.mk (Below.refl w.heap.size w)
  have H : (if a1 < 1 then (sandglasslaw03_HashHomes.j0 k a0 a1 true) else (sandglasslaw03_HashHomes.j0 k a0 a1 (decide (a1 > 61)))) = some r := h
  clear h
  have HC3 := Aside0.mk H
  clear H
  go_enter Try.func5, Try.ntmps5
  go_upto_region 1 with (fail)
  go_cut [12] (fun v12 wc => ∃ (kq : Nat) (x12_2 : Bool), v12 = .bool x12_2 ∧ Aside0 (sandglasslaw03_HashHomes.j0 kq a0 a1 x12_2 = some r) ∧ Aside0 (kq ≤ k) ∧ Aside0 (Below w.heap.size w wc))
  case first =>
    have H := HC3.out
    clear HC3
    by_cases c4 : a1 < 1
    · rw [if_pos c4] at H
      have c4b0 : decide (a1 < 1) = true := decide_eq_true c4
      clear c4
      (first | rw [c4b0] | (simp only [i64_w, i32_w]; rw [c4b0]) | skip)
      have H' := Aside0.mk H
      clear H
      go_wp2
      go_meet
      case rel => exact ⟨_, (true), (by first | (with_reducible rfl) | rfl | (simp; done) | (simp [*]; done)), H', ⟨by first | omega | exact Nat.le_refl _⟩, ⟨bl HB⟩⟩
    · rw [if_neg c4] at H
      have c4b0 : decide (a1 < 1) = false := decide_eq_false c4
      clear c4
      (first | rw [c4b0] | (simp only [i64_w, i32_w]; rw [c4b0]) | skip)
      have H' := Aside0.mk H
      clear H
      go_wp2
      go_meet
      case rel => exact ⟨_, (decide (a1 > 61)), (by first | (with_reducible rfl) | rfl | (simp; done) | (simp [*]; done)), H', ⟨by first | omega | exact Nat.le_refl _⟩, ⟨bl HB⟩⟩
  case rest =>
    clear HC3
    try clear p2
    try clear c4
    try clear c4b0
    obtain ⟨kq, x12_2, rfl, HA, HJ2, HB⟩ := hcut
    cases kq with
    | zero => exact absurd HA.out (by simp [sandglasslaw03_HashHomes.j0])
    | succ kj2 =>
      have H := HA.out
      clear HA
      simp only [sandglasslaw03_HashHomes.j0] at H
      by_cases c5 : x12_2 = true
      · subst c5
        rw [if_pos rfl] at H
        by_cases c6 : a1 = 62
        · rw [if_pos c6] at H
          have c6b0 : (a1 == 62) = true := beq_iff_eq.mpr c6
          have c6b1 : (a1 != 62) = false := bne_eq_false_iff_eq.mpr c6
          clear c6
          replace H := Option.bind_eq_some_iff.mp H
          obtain ⟨t127, A70, H⟩ := H
          have A7 := Aside0.mk A70
          clear A70
          obtain rfl := Option.some.inj H
          go_wp2_with (first | (go_at_call 11; (with_reducible refine (sandglasslaw03_live.calls kj2  t127 _ A7.out).mono ?_); rintro e w8 ⟨rfl, hb⟩; replace HB := Aside0.mk (below_step (bl HB) hb); (try clear hb); (try clear hb2); (try clear hk); (try clear hi)))
          go_ret
          exact ⟨by first | (with_reducible rfl) | rfl | (simp [errW_none, errW_some] <;> rfl) | (simp [*, errW_none, errW_some] <;> rfl), bl HB⟩
        · rw [if_neg c6] at H
          have c6b0 : (a1 == 62) = false := beq_eq_false_iff_ne.mpr c6
          have c6b1 : (a1 != 62) = true := bne_iff_ne.mpr c6
          replace H := Option.bind_eq_some_iff.mp H
          obtain ⟨t128, A90, H⟩ := H
          have A9 := Aside0.mk A90
          clear A90
          by_cases c10 : t128 = 0
          · rw [if_pos c10] at H
            have c10b0 : (t128 == 0) = true := beq_iff_eq.mpr c10
            have c10b1 : (t128 != 0) = false := bne_eq_false_iff_eq.mpr c10
            clear c10
            replace H := Option.bind_eq_some_iff.mp H
            obtain ⟨t129, A110, H⟩ := H
            have A11 := Aside0.mk A110
            clear A110
            obtain rfl := Option.some.inj H
            go_wp2_with (first | (go_at_call 13; (with_reducible refine (hash_Home.calls kj2 a0 a1 t128 _ A9.out).mono ?_); rintro e w' ⟨rfl, ⟨nd, rfl⟩⟩) | (go_at_call 11; (with_reducible refine (sandglasslaw03_live.calls kj2  t129 _ A11.out).mono ?_); rintro e w12 ⟨rfl, hb⟩; replace HB := Aside0.mk (below_step (bl HB) hb); (try clear hb); (try clear hb2); (try clear hk); (try clear hi)))
            go_ret
            exact ⟨by first | (with_reducible rfl) | rfl | (simp [errW_none, errW_some] <;> rfl) | (simp [*, errW_none, errW_some] <;> rfl), bl HB⟩
          · rw [if_neg c10] at H
            exact absurd H (by simp)
      · replace c5 := Bool.eq_false_iff.mpr c5
        subst c5
        rw [if_neg (show ¬ (false = true) by decide)] at H
        replace H := Option.bind_eq_some_iff.mp H
        obtain ⟨t130, A130, H⟩ := H
        have A13 := Aside0.mk A130
        clear A130
        replace H := Option.bind_eq_some_iff.mp H
        obtain ⟨t131, A140, H⟩ := H
        have A14 := Aside0.mk A140
        clear A140
        by_cases c15 : t130 ≥ 0
        · rw [if_pos c15] at H
          have c15b0 : decide (0 ≤ t130) = true := decide_eq_true c15
          clear c15
          obtain ⟨ji16, hji16⟩ : ∃ j_ : Int, (IntKind.u64.wrap (a1)) = j_ := ⟨_, rfl⟩
          replace H : (if 0 ≤ (ji16) then (if t130 < (shl .i64 1 (ji16)) then (if t131 = (wrap64 (2 * t130)) then ((sandglasslaw03_live.f kj2).bind fun t132 => (some t132)) else (if t131 = (wrap64 ((wrap64 (2 * t130)) + 1)) then ((sandglasslaw03_live.f kj2).bind fun t133 => (some t133)) else (none))) else (none)) else (none)) = some r := by first | (rw [hji16] at H; exact H) | (simp only [hji16] at H ⊢; exact H)
          (try rw [hji16] at A13)
          (try rw [hji16] at A14)
          by_cases c17 : 0 ≤ (ji16)
          · rw [if_pos c17] at H
            have c17b0 := eq_true c17
            have c17b1 : decide (0 ≤ (ji16)) = true := decide_eq_true c17
            clear c17
            obtain ⟨ji18, hji18⟩ : ∃ j_ : Int, (shl .i64 1 (ji16)) = j_ := ⟨_, rfl⟩
            replace H : (if t130 < (ji18) then (if t131 = (wrap64 (2 * t130)) then ((sandglasslaw03_live.f kj2).bind fun t132 => (some t132)) else (if t131 = (wrap64 ((wrap64 (2 * t130)) + 1)) then ((sandglasslaw03_live.f kj2).bind fun t133 => (some t133)) else (none))) else (none)) = some r := by first | (rw [hji18] at H; exact H) | (simp only [hji18] at H ⊢; exact H)
            (try rw [hji18] at A13)
            (try rw [hji18] at A14)
            have hji18_ : (IntKind.i64.wrap (1 * 2 ^ min (ji16).toNat 64)) = ji18 := hji18
            have hji18z : (ji16) ≤ 64 → (IntKind.i64.wrap (1 * 2 ^ (ji16).toNat)) = ji18 := shl_small hji18
            have hji18u : (IntKind.i64.wrap (2 ^ min (ji16).toNat 64)) = ji18 := by have h_ := hji18_; rw [Int.one_mul] at h_; exact h_
            have hji18v : (ji16) ≤ 64 → (IntKind.i64.wrap (2 ^ (ji16).toNat)) = ji18 := fun hle_ => by have h_ := hji18z hle_; rw [Int.one_mul] at h_; exact h_
            have hji18y : (wrap64 (1 * 2 ^ min (ji16).toNat 64)) = ji18 := (i64_w _).symm.trans hji18_
            have hji18x : (ji16) ≤ 64 → (wrap64 (1 * 2 ^ (ji16).toNat)) = ji18 := fun h_ => (i64_w _).symm.trans (hji18z h_)
            by_cases c19 : t130 < (ji18)
            · rw [if_pos c19] at H
              have c19b0 : decide (t130 < (ji18)) = true := decide_eq_true c19
              clear c19
              by_cases c20 : t131 = (wrap64 (2 * t130))
              · rw [if_pos c20] at H
                have c20b0 : (t131 == (wrap64 (2 * t130))) = true := beq_iff_eq.mpr c20
                have c20b1 : (t131 != (wrap64 (2 * t130))) = false := bne_eq_false_iff_eq.mpr c20
                clear c20
                replace H := Option.bind_eq_some_iff.mp H
                obtain ⟨t132, A210, H⟩ := H
                have A21 := Aside0.mk A210
                clear A210
                obtain rfl := Option.some.inj H
                go_wp2_with (first | ((with_reducible refine gate_callee (f := 13) rfl ?_); refine goesL_ (some 26) rfl rfl Try.func13 (by kernel_rfl) rfl #[.int .u64 a0, .int .i64 a1] rfl (by (try simp only [List.map_toArray, List.map_cons, List.map_nil]); first | done | rfl | (simp only [List.length_drop, List.length_take]; rfl)) ?_; (with_reducible refine (hash_Home.calls kj2 a0 a1 t130 _ A13.out).mono ?_); rintro e w' ⟨rfl, ⟨nd, rfl⟩⟩; refine ⟨_, rfl, ?_⟩) | ((with_reducible refine gate_callee (f := 13) rfl ?_); refine goesL_ (some 30) rfl rfl Try.func13 (by kernel_rfl) rfl #[.int .u64 a0, .int .i64 (wrap64 (a1 + 1))] rfl (by (try simp only [List.map_toArray, List.map_cons, List.map_nil]); first | done | rfl | (simp only [List.length_drop, List.length_take]; rfl)) ?_; (with_reducible refine (hash_Home.calls kj2 a0 (wrap64 (a1 + 1)) t131 _ A14.out).mono ?_); rintro e w' ⟨rfl, ⟨nd, rfl⟩⟩; refine ⟨_, rfl, ?_⟩) | (go_at_call 11; (with_reducible refine (sandglasslaw03_live.calls kj2  t132 _ A21.out).mono ?_); rintro e w22 ⟨rfl, hb⟩; replace HB := Aside0.mk (below_step (bl HB) hb); (try clear hb); (try clear hb2); (try clear hk); (try clear hi)))
                go_ret
                exact ⟨by first | (with_reducible rfl) | (simp only [← hji16, ← hji18]; with_reducible rfl) | (simp only [← hji16, ← hji18]; done) | rfl | (simp [errW_none, errW_some] <;> rfl) | (simp only [← hji16, ← hji18]; first | rfl | (simp [errW_none, errW_some] <;> rfl)) | (simp [*, errW_none, errW_some] <;> rfl), bl HB⟩
              · rw [if_neg c20] at H
                have c20b0 : (t131 == (wrap64 (2 * t130))) = false := beq_eq_false_iff_ne.mpr c20
                have c20b1 : (t131 != (wrap64 (2 * t130))) = true := bne_iff_ne.mpr c20
                by_cases c23 : t131 = (wrap64 ((wrap64 (2 * t130)) + 1))
                · rw [if_pos c23] at H
                  have c23b0 : (t131 == (wrap64 ((wrap64 (2 * t130)) + 1))) = true := beq_iff_eq.mpr c23
                  have c23b1 : (t131 != (wrap64 ((wrap64 (2 * t130)) + 1))) = false := bne_eq_false_iff_eq.mpr c23
                  clear c23
                  replace H := Option.bind_eq_some_iff.mp H
                  obtain ⟨t133, A240, H⟩ := H
                  have A24 := Aside0.mk A240
                  clear A240
                  obtain rfl := Option.some.inj H
                  go_wp2_with (first | ((with_reducible refine gate_callee (f := 13) rfl ?_); refine goesL_ (some 26) rfl rfl Try.func13 (by kernel_rfl) rfl #[.int .u64 a0, .int .i64 a1] rfl (by (try simp only [List.map_toArray, List.map_cons, List.map_nil]); first | done | rfl | (simp only [List.length_drop, List.length_take]; rfl)) ?_; (with_reducible refine (hash_Home.calls kj2 a0 a1 t130 _ A13.out).mono ?_); rintro e w' ⟨rfl, ⟨nd, rfl⟩⟩; refine ⟨_, rfl, ?_⟩) | ((with_reducible refine gate_callee (f := 13) rfl ?_); refine goesL_ (some 30) rfl rfl Try.func13 (by kernel_rfl) rfl #[.int .u64 a0, .int .i64 (wrap64 (a1 + 1))] rfl (by (try simp only [List.map_toArray, List.map_cons, List.map_nil]); first | done | rfl | (simp only [List.length_drop, List.length_take]; rfl)) ?_; (with_reducible refine (hash_Home.calls kj2 a0 (wrap64 (a1 + 1)) t131 _ A14.out).mono ?_); rintro e w' ⟨rfl, ⟨nd, rfl⟩⟩; refine ⟨_, rfl, ?_⟩) | (go_at_call 11; (with_reducible refine (sandglasslaw03_live.calls kj2  t133 _ A24.out).mono ?_); rintro e w25 ⟨rfl, hb⟩; replace HB := Aside0.mk (below_step (bl HB) hb); (try clear hb); (try clear hb2); (try clear hk); (try clear hi)))
                  go_ret
                  exact ⟨by first | (with_reducible rfl) | (simp only [← hji16, ← hji18]; with_reducible rfl) | (simp only [← hji16, ← hji18]; done) | rfl | (simp [errW_none, errW_some] <;> rfl) | (simp only [← hji16, ← hji18]; first | rfl | (simp [errW_none, errW_some] <;> rfl)) | (simp [*, errW_none, errW_some] <;> rfl), bl HB⟩
                · rw [if_neg c23] at H
                  exact absurd H (by simp)
            · rw [if_neg c19] at H
              exact absurd H (by simp)
          · rw [if_neg c17] at H
            exact absurd H (by simp)
        · rw [if_neg c15] at H
          exact absurd H (by simp)

end Go.Proofs.Ytkjhhiiickcebaa.Q
