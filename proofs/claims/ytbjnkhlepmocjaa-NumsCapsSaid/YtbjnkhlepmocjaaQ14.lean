-- Laid by wip/tools/hprint.py, a program of this repo, over the kit's print; not a text of print.sh.
import Derived.Test.YtbjnkhlepmocjaaQ0
import Derived.Test.YtbjnkhlepmocjaaQ11
namespace Go.Proofs.Ytbjnkhlepmocjaa.Q
open Go.RowKit Go.Proofs.Ytbjnkhlepmocjaa.Zip Go.Proofs.YtbjnkhlepmocjaaW.PrintWords Go.Proofs.YtbjnkhlepmocjaaW.PrintLast Go.Proofs.YtbjnkhlepmocjaaW.PrintMore
attribute [local go_sem] max2_int min2_int max_two min_two max_three min_three max_four min_four   -- for this text's walks alone
set_option linter.unusedVariables false
set_option linter.unusedSimpArgs false

/-! ### nums_Text: function 26 -/
def nums_Text.f (a0 : ByteArray) (a1 : Int) : Option (ByteArray × Int × Int) := (nums_Number.f a0 a1 1).bind fun bt113 => (if bt113.2.2 = 0 then (if (wrap64 (bt113.2.1 + (wrap64 (bt113.1)))) > (a0.size : Int) then (some ((⟨#[]⟩ : ByteArray), 0, 2)) else (if 0 ≤ bt113.2.1 then (if bt113.2.1 ≤ (wrap64 (bt113.2.1 + (wrap64 (bt113.1)))) then (if (wrap64 (bt113.2.1 + (wrap64 (bt113.1)))) ≤ (a0.size : Int) then (some (a0.extract (bt113.2.1 : Int).toNat ((wrap64 (bt113.2.1 + (wrap64 (bt113.1)))) : Int).toNat, wrap64 (bt113.2.1 + (wrap64 (bt113.1))), 0)) else (none)) else (none)) else (none))) else (some ((⟨#[]⟩ : ByteArray), 0, bt113.2.2)))
set_option maxHeartbeats 8000000 in
set_option maxRecDepth 100000 in
theorem nums_Text.calls (a0 : ByteArray) (a1 : Int) (r1 : ByteArray) (r2 : Int) (r3 : Int) (w : World) (h : nums_Text.f a0 a1 = some (r1, r2, r3)) :
    Calls Try.prog 26 #[.string a0, .int .i64 a1] w fun e w' => e = .returned (.tuple #[.string r1, .int .i64 r2, .int .i64 r3]) ∧ Below w.heap.size w w' := by
  have HB := Aside0.mk (Below.refl w.heap.size w)
  have H : ((nums_Number.f a0 a1 1).bind fun bt113 => (if bt113.2.2 = 0 then (if (wrap64 (bt113.2.1 + (wrap64 (bt113.1)))) > (a0.size : Int) then (some ((⟨#[]⟩ : ByteArray), 0, 2)) else (if 0 ≤ bt113.2.1 then (if bt113.2.1 ≤ (wrap64 (bt113.2.1 + (wrap64 (bt113.1)))) then (if (wrap64 (bt113.2.1 + (wrap64 (bt113.1)))) ≤ (a0.size : Int) then (some (a0.extract (bt113.2.1 : Int).toNat ((wrap64 (bt113.2.1 + (wrap64 (bt113.1)))) : Int).toNat, wrap64 (bt113.2.1 + (wrap64 (bt113.1))), 0)) else (none)) else (none)) else (none))) else (some ((⟨#[]⟩ : ByteArray), 0, bt113.2.2)))) = some (r1, r2, r3) := h
  clear h
  replace H := Option.bind_eq_some_iff.mp H
  obtain ⟨⟨t113, t114, t115⟩, A30, H⟩ := H
  have A3 := Aside0.mk A30
  clear A30
  by_cases c4 : t115 = 0
  · rw [if_pos c4] at H
    have c4b0 : (t115 == 0) = true := beq_iff_eq.mpr c4
    have c4b1 : (t115 != 0) = false := bne_eq_false_iff_eq.mpr c4
    clear c4
    by_cases c5 : (wrap64 (t114 + (wrap64 (t113)))) > (a0.size : Int)
    · rw [if_pos c5] at H
      have c5b0 : decide ((a0.size : Int) < (wrap64 (t114 + (wrap64 (t113))))) = true := decide_eq_true c5
      clear c5
      simp only [Option.some.injEq, Prod.mk.injEq] at H
      obtain ⟨rfl, rfl, rfl⟩ := H
      go_enter Try.func26, Try.ntmps26
      go_wp2_with (first | ((with_reducible refine gate_callee (f := 20) rfl ?_); refine goesL_ (some 14) rfl rfl Try.func20 (by kernel_rfl) rfl #[.string a0, .int .i64 a1, .int .i64 1] rfl (by (try simp only [List.map_toArray, List.map_cons, List.map_nil]); first | done | rfl | (simp only [List.length_drop, List.length_take]; rfl)) ?_; (with_reducible refine (nums_Number.calls a0 a1 1 t113 t114 t115 _ A3.out).mono ?_); rintro e w6 ⟨rfl, hb⟩; refine ⟨_, rfl, ?_⟩; replace HB := Aside0.mk (below_step (bl HB) hb); (try clear hb); (try clear hb2); (try clear hk); (try clear hi)))
      go_ret3
      exact ⟨by first | (with_reducible rfl) | rfl | (simp [errW_none, errW_some] <;> rfl) | (simp [*, errW_none, errW_some] <;> rfl), bl HB⟩
    · rw [if_neg c5] at H
      have c5b0 : decide ((a0.size : Int) < (wrap64 (t114 + (wrap64 (t113))))) = false := decide_eq_false c5
      clear c5
      by_cases c7 : 0 ≤ t114
      · rw [if_pos c7] at H
        have c7b0 := eq_true c7
        have c7b1 : decide (0 ≤ t114) = true := decide_eq_true c7
        clear c7
        by_cases c8 : t114 ≤ (wrap64 (t114 + (wrap64 (t113))))
        · rw [if_pos c8] at H
          have c8b0 := eq_true c8
          have c8b1 : decide (t114 ≤ (wrap64 (t114 + (wrap64 (t113))))) = true := decide_eq_true c8
          by_cases c9 : (wrap64 (t114 + (wrap64 (t113)))) ≤ (a0.size : Int)
          · rw [if_pos c9] at H
            have c9b0 := eq_true c9
            have c9b1 : decide ((wrap64 (t114 + (wrap64 (t113)))) ≤ (a0.size : Int)) = true := decide_eq_true c9
            simp only [Option.some.injEq, Prod.mk.injEq] at H
            obtain ⟨rfl, rfl, rfl⟩ := H
            go_enter Try.func26, Try.ntmps26
            go_wp2_with (first | ((with_reducible refine gate_callee (f := 20) rfl ?_); refine goesL_ (some 14) rfl rfl Try.func20 (by kernel_rfl) rfl #[.string a0, .int .i64 a1, .int .i64 1] rfl (by (try simp only [List.map_toArray, List.map_cons, List.map_nil]); first | done | rfl | (simp only [List.length_drop, List.length_take]; rfl)) ?_; (with_reducible refine (nums_Number.calls a0 a1 1 t113 t114 t115 _ A3.out).mono ?_); rintro e w10 ⟨rfl, hb⟩; refine ⟨_, rfl, ?_⟩; replace HB := Aside0.mk (below_step (bl HB) hb); (try clear hb); (try clear hb2); (try clear hk); (try clear hi)))
            go_ret3
            exact ⟨by first | (with_reducible rfl) | rfl | (simp [errW_none, errW_some] <;> rfl) | (simp [*, errW_none, errW_some] <;> rfl), bl HB⟩
          · rw [if_neg c9] at H
            exact absurd H (by simp)
        · rw [if_neg c8] at H
          exact absurd H (by simp)
      · rw [if_neg c7] at H
        exact absurd H (by simp)
  · rw [if_neg c4] at H
    have c4b0 : (t115 == 0) = false := beq_eq_false_iff_ne.mpr c4
    have c4b1 : (t115 != 0) = true := bne_iff_ne.mpr c4
    simp only [Option.some.injEq, Prod.mk.injEq] at H
    obtain ⟨rfl, rfl, rfl⟩ := H
    go_enter Try.func26, Try.ntmps26
    go_wp2_with (first | ((with_reducible refine gate_callee (f := 20) rfl ?_); refine goesL_ (some 14) rfl rfl Try.func20 (by kernel_rfl) rfl #[.string a0, .int .i64 a1, .int .i64 1] rfl (by (try simp only [List.map_toArray, List.map_cons, List.map_nil]); first | done | rfl | (simp only [List.length_drop, List.length_take]; rfl)) ?_; (with_reducible refine (nums_Number.calls a0 a1 1 t113 t114 t115 _ A3.out).mono ?_); rintro e w11 ⟨rfl, hb⟩; refine ⟨_, rfl, ?_⟩; replace HB := Aside0.mk (below_step (bl HB) hb); (try clear hb); (try clear hb2); (try clear hk); (try clear hi)))
    go_ret3
    exact ⟨by first | (with_reducible rfl) | rfl | (simp [errW_none, errW_some] <;> rfl) | (simp [*, errW_none, errW_some] <;> rfl), bl HB⟩

end Go.Proofs.Ytbjnkhlepmocjaa.Q
