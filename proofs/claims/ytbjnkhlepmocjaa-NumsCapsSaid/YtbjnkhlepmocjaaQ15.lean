-- Laid by wip/tools/hprint.py, a program of this repo, over the kit's print; not a text of print.sh.
import Derived.Test.YtbjnkhlepmocjaaQ0
import Derived.Test.YtbjnkhlepmocjaaQ1
import Derived.Test.YtbjnkhlepmocjaaQ4
import Derived.Test.YtbjnkhlepmocjaaQ6
import Derived.Test.YtbjnkhlepmocjaaQ8
import Derived.Test.YtbjnkhlepmocjaaQ10
import Derived.Test.YtbjnkhlepmocjaaQ11
import Derived.Test.YtbjnkhlepmocjaaQ12
import Derived.Test.YtbjnkhlepmocjaaQ13
import Derived.Test.YtbjnkhlepmocjaaQ14
namespace Go.Proofs.Ytbjnkhlepmocjaa.Q
open Go.RowKit Go.Proofs.Ytbjnkhlepmocjaa.Zip Go.Proofs.YtbjnkhlepmocjaaW.PrintWords Go.Proofs.YtbjnkhlepmocjaaW.PrintLast Go.Proofs.YtbjnkhlepmocjaaW.PrintMore
attribute [local go_sem] max2_int min2_int max_two min_two max_three min_three max_four min_four   -- for this text's walks alone
set_option linter.unusedVariables false
set_option linter.unusedSimpArgs false

/-! ### sandglasslaw02_live: function 17 -/
def sandglasslaw02_live.f (k : Nat)  : Option (Bool) := (nums_Number.f (⟨#[120, 1, 2, 121]⟩ : ByteArray) 1 2).bind fun bt116 => ((nums_Number.f (⟨#[97, 98, 99]⟩ : ByteArray) 2 2).bind fun bt119 => ((nums_Put.f (⟨#[104, 105]⟩ : ByteArray)).bind fun bt122 => (if 1 + bt122.1.size ≤ 9223372036854775807 then ((nums_Text.f ((⟨#[122]⟩ : ByteArray) ++ bt122.1) 1).bind fun bt124 => ((nums_Text.f (⟨#[5, 97, 98]⟩ : ByteArray) 0).bind fun bt127 => ((nums_Narrow.f (⟨#[1, 0]⟩ : ByteArray)).bind fun bt130 => ((nums_Narrow.f (⟨#[49, 50, 51, 52, 53, 54, 55, 56, 57]⟩ : ByteArray)).bind fun bt132 => ((nums_Add.f 5 6 10).bind fun t134 => (if t134 = 10 then ((nums_Add.f 5 6 12).bind fun t135 => (if t135 = 11 then ((nums_Mul.f k 1099511627776 1099511627776 18446744073709551615).bind fun t136 => (if t136 = 18446744073709551615 then ((nums_Mul.f k 3 4 100).bind fun t137 => (if t137 = 12 then ((nums_Sub.f 3 5).bind fun t138 => (if t138 = 0 then ((nums_Sub.f 5 3).bind fun t139 => (if t139 = 2 then ((nums_Up.f 7 3).bind fun t140 => (if t140 = 3 then ((nums_Up.f 6 3).bind fun t141 => (if t141 = 2 then ((nums_Up.f 6 0).bind fun t142 => (if t142 = 0 then ((nums_Wide.f k 258 2).bind fun t143 => (if t143.toList = ([1, 2] : List UInt8) then ((nums_Wide.f k 1 9).bind fun t144 => (if t144.toList = ([] : List UInt8) then (if bt116.1 = 258 then (if bt116.2.1 = 3 then (if bt116.2.2 = 0 then (if bt119.2.2 = 2 then (if bt122.1.toList = ([2, 104, 105] : List UInt8) then (if bt122.2 = true then (if bt124.1.toList = ([104, 105] : List UInt8) then (if bt124.2.1 = 4 then (if bt124.2.2 = 0 then (if bt127.2.2 = 2 then (if bt130.1 = 256 then (if bt130.2 = true then (some (!bt132.2)) else (none)) else (none)) else (none)) else (none)) else (none)) else (none)) else (none)) else (none)) else (none)) else (none)) else (none)) else (none)) else (none))) else (none))) else (none))) else (none))) else (none))) else (none))) else (none))) else (none))) else (none))) else (none))) else (none))))))) else (none))))
theorem sandglasslaw02_live.mono : ∀ k, LeO (sandglasslaw02_live.f k ) (sandglasslaw02_live.f (k + 1) ) := by
  intro  k
  unfold sandglasslaw02_live.f
  repeat' first
      | (with_reducible exact nums_Mul.mono _ _ _ _)
      | (with_reducible exact nums_Wide.mono _ _ _)
      | (with_reducible exact LeO.refl _)
      | (with_reducible exact LeO.none _)
      | (with_reducible refine LeO.ite ?_ ?_)
      | (with_reducible refine LeO.bind ?_ (fun _ => ?_))
      | exact nums_Mul.mono _ _ _ _
      | exact nums_Wide.mono _ _ _
      | exact LeO.none _
      | refine LeO.ite ?_ ?_
      | refine LeO.bind ?_ (fun _ => ?_)
set_option maxHeartbeats 8000000 in
set_option maxRecDepth 100000 in
theorem sandglasslaw02_live.calls (k : Nat)  (r : Bool) (w : World) (h : sandglasslaw02_live.f k  = some r) :
    Calls Try.prog 17 #[] w fun e w' => e = .returned (.bool r) ∧ Below w.heap.size w w' := by
  have HB := Aside0.mk (Below.refl w.heap.size w)
  have H : ((nums_Number.f (⟨#[120, 1, 2, 121]⟩ : ByteArray) 1 2).bind fun bt116 => ((nums_Number.f (⟨#[97, 98, 99]⟩ : ByteArray) 2 2).bind fun bt119 => ((nums_Put.f (⟨#[104, 105]⟩ : ByteArray)).bind fun bt122 => (if 1 + bt122.1.size ≤ 9223372036854775807 then ((nums_Text.f ((⟨#[122]⟩ : ByteArray) ++ bt122.1) 1).bind fun bt124 => ((nums_Text.f (⟨#[5, 97, 98]⟩ : ByteArray) 0).bind fun bt127 => ((nums_Narrow.f (⟨#[1, 0]⟩ : ByteArray)).bind fun bt130 => ((nums_Narrow.f (⟨#[49, 50, 51, 52, 53, 54, 55, 56, 57]⟩ : ByteArray)).bind fun bt132 => ((nums_Add.f 5 6 10).bind fun t134 => (if t134 = 10 then ((nums_Add.f 5 6 12).bind fun t135 => (if t135 = 11 then ((nums_Mul.f k 1099511627776 1099511627776 18446744073709551615).bind fun t136 => (if t136 = 18446744073709551615 then ((nums_Mul.f k 3 4 100).bind fun t137 => (if t137 = 12 then ((nums_Sub.f 3 5).bind fun t138 => (if t138 = 0 then ((nums_Sub.f 5 3).bind fun t139 => (if t139 = 2 then ((nums_Up.f 7 3).bind fun t140 => (if t140 = 3 then ((nums_Up.f 6 3).bind fun t141 => (if t141 = 2 then ((nums_Up.f 6 0).bind fun t142 => (if t142 = 0 then ((nums_Wide.f k 258 2).bind fun t143 => (if t143.toList = ([1, 2] : List UInt8) then ((nums_Wide.f k 1 9).bind fun t144 => (if t144.toList = ([] : List UInt8) then (if bt116.1 = 258 then (if bt116.2.1 = 3 then (if bt116.2.2 = 0 then (if bt119.2.2 = 2 then (if bt122.1.toList = ([2, 104, 105] : List UInt8) then (if bt122.2 = true then (if bt124.1.toList = ([104, 105] : List UInt8) then (if bt124.2.1 = 4 then (if bt124.2.2 = 0 then (if bt127.2.2 = 2 then (if bt130.1 = 256 then (if bt130.2 = true then (some (!bt132.2)) else (none)) else (none)) else (none)) else (none)) else (none)) else (none)) else (none)) else (none)) else (none)) else (none)) else (none)) else (none)) else (none))) else (none))) else (none))) else (none))) else (none))) else (none))) else (none))) else (none))) else (none))) else (none))) else (none))))))) else (none))))) = some r := h
  clear h
  replace H := Option.bind_eq_some_iff.mp H
  obtain ⟨⟨t116, t117, t118⟩, A10, H⟩ := H
  have A1 := Aside0.mk A10
  clear A10
  replace H := Option.bind_eq_some_iff.mp H
  obtain ⟨⟨t119, t120, t121⟩, A20, H⟩ := H
  have A2 := Aside0.mk A20
  clear A20
  replace H := Option.bind_eq_some_iff.mp H
  obtain ⟨⟨t122, t123⟩, A30, H⟩ := H
  have A3 := Aside0.mk A30
  clear A30
  by_cases c4 : 1 + t122.size ≤ 9223372036854775807
  · rw [if_pos c4] at H
    have c4b0 := eq_true c4
    have c4b1 : decide (1 + t122.size ≤ 9223372036854775807) = true := decide_eq_true c4
    try have c4b2 : (9223372036854775807 < 1 + t122.size) = False := eq_false (Nat.not_lt.2 c4)
    replace H := Option.bind_eq_some_iff.mp H
    obtain ⟨⟨t124, t125, t126⟩, A50, H⟩ := H
    have A5 := Aside0.mk A50
    clear A50
    replace H := Option.bind_eq_some_iff.mp H
    obtain ⟨⟨t127, t128, t129⟩, A60, H⟩ := H
    have A6 := Aside0.mk A60
    clear A60
    replace H := Option.bind_eq_some_iff.mp H
    obtain ⟨⟨t130, t131⟩, A70, H⟩ := H
    have A7 := Aside0.mk A70
    clear A70
    replace H := Option.bind_eq_some_iff.mp H
    obtain ⟨⟨t132, t133⟩, A80, H⟩ := H
    have A8 := Aside0.mk A80
    clear A80
    replace H := Option.bind_eq_some_iff.mp H
    obtain ⟨t134, A90, H⟩ := H
    have A9 := Aside0.mk A90
    clear A90
    by_cases c10 : t134 = 10
    · rw [if_pos c10] at H
      have c10b0 : (t134 == 10) = true := beq_iff_eq.mpr c10
      have c10b1 : (t134 != 10) = false := bne_eq_false_iff_eq.mpr c10
      clear c10
      replace H := Option.bind_eq_some_iff.mp H
      obtain ⟨t135, A110, H⟩ := H
      have A11 := Aside0.mk A110
      clear A110
      by_cases c12 : t135 = 11
      · rw [if_pos c12] at H
        have c12b0 : (t135 == 11) = true := beq_iff_eq.mpr c12
        have c12b1 : (t135 != 11) = false := bne_eq_false_iff_eq.mpr c12
        clear c12
        replace H := Option.bind_eq_some_iff.mp H
        obtain ⟨t136, A130, H⟩ := H
        have A13 := Aside0.mk A130
        clear A130
        by_cases c14 : t136 = 18446744073709551615
        · rw [if_pos c14] at H
          have c14b0 : (t136 == 18446744073709551615) = true := beq_iff_eq.mpr c14
          have c14b1 : (t136 != 18446744073709551615) = false := bne_eq_false_iff_eq.mpr c14
          clear c14
          replace H := Option.bind_eq_some_iff.mp H
          obtain ⟨t137, A150, H⟩ := H
          have A15 := Aside0.mk A150
          clear A150
          by_cases c16 : t137 = 12
          · rw [if_pos c16] at H
            have c16b0 : (t137 == 12) = true := beq_iff_eq.mpr c16
            have c16b1 : (t137 != 12) = false := bne_eq_false_iff_eq.mpr c16
            clear c16
            replace H := Option.bind_eq_some_iff.mp H
            obtain ⟨t138, A170, H⟩ := H
            have A17 := Aside0.mk A170
            clear A170
            by_cases c18 : t138 = 0
            · rw [if_pos c18] at H
              have c18b0 : (t138 == 0) = true := beq_iff_eq.mpr c18
              have c18b1 : (t138 != 0) = false := bne_eq_false_iff_eq.mpr c18
              clear c18
              replace H := Option.bind_eq_some_iff.mp H
              obtain ⟨t139, A190, H⟩ := H
              have A19 := Aside0.mk A190
              clear A190
              by_cases c20 : t139 = 2
              · rw [if_pos c20] at H
                have c20b0 : (t139 == 2) = true := beq_iff_eq.mpr c20
                have c20b1 : (t139 != 2) = false := bne_eq_false_iff_eq.mpr c20
                clear c20
                replace H := Option.bind_eq_some_iff.mp H
                obtain ⟨t140, A210, H⟩ := H
                have A21 := Aside0.mk A210
                clear A210
                by_cases c22 : t140 = 3
                · rw [if_pos c22] at H
                  have c22b0 : (t140 == 3) = true := beq_iff_eq.mpr c22
                  have c22b1 : (t140 != 3) = false := bne_eq_false_iff_eq.mpr c22
                  clear c22
                  replace H := Option.bind_eq_some_iff.mp H
                  obtain ⟨t141, A230, H⟩ := H
                  have A23 := Aside0.mk A230
                  clear A230
                  by_cases c24 : t141 = 2
                  · rw [if_pos c24] at H
                    have c24b0 : (t141 == 2) = true := beq_iff_eq.mpr c24
                    have c24b1 : (t141 != 2) = false := bne_eq_false_iff_eq.mpr c24
                    clear c24
                    replace H := Option.bind_eq_some_iff.mp H
                    obtain ⟨t142, A250, H⟩ := H
                    have A25 := Aside0.mk A250
                    clear A250
                    by_cases c26 : t142 = 0
                    · rw [if_pos c26] at H
                      have c26b0 : (t142 == 0) = true := beq_iff_eq.mpr c26
                      have c26b1 : (t142 != 0) = false := bne_eq_false_iff_eq.mpr c26
                      clear c26
                      replace H := Option.bind_eq_some_iff.mp H
                      obtain ⟨t143, A270, H⟩ := H
                      have A27 := Aside0.mk A270
                      clear A270
                      by_cases c28 : t143.toList = ([1, 2] : List UInt8)
                      · rw [if_pos c28] at H
                        have c28b0 : (t143.toList == ([1, 2] : List UInt8)) = true := beq_iff_eq.mpr c28
                        have c28b1 : (t143.toList != ([1, 2] : List UInt8)) = false := bne_eq_false_iff_eq.mpr c28
                        clear c28
                        replace H := Option.bind_eq_some_iff.mp H
                        obtain ⟨t144, A290, H⟩ := H
                        have A29 := Aside0.mk A290
                        clear A290
                        by_cases c30 : t144.toList = ([] : List UInt8)
                        · rw [if_pos c30] at H
                          have c30b0 : (t144.toList == ([] : List UInt8)) = true := beq_iff_eq.mpr c30
                          have c30b1 : (t144.toList != ([] : List UInt8)) = false := bne_eq_false_iff_eq.mpr c30
                          clear c30
                          by_cases c31 : t116 = 258
                          · rw [if_pos c31] at H
                            have c31b0 : (t116 == 258) = true := beq_iff_eq.mpr c31
                            have c31b1 : (t116 != 258) = false := bne_eq_false_iff_eq.mpr c31
                            clear c31
                            by_cases c32 : t117 = 3
                            · rw [if_pos c32] at H
                              have c32b0 : (t117 == 3) = true := beq_iff_eq.mpr c32
                              have c32b1 : (t117 != 3) = false := bne_eq_false_iff_eq.mpr c32
                              clear c32
                              by_cases c33 : t118 = 0
                              · rw [if_pos c33] at H
                                have c33b0 : (t118 == 0) = true := beq_iff_eq.mpr c33
                                have c33b1 : (t118 != 0) = false := bne_eq_false_iff_eq.mpr c33
                                clear c33
                                by_cases c34 : t121 = 2
                                · rw [if_pos c34] at H
                                  have c34b0 : (t121 == 2) = true := beq_iff_eq.mpr c34
                                  have c34b1 : (t121 != 2) = false := bne_eq_false_iff_eq.mpr c34
                                  clear c34
                                  by_cases c35 : t122.toList = ([2, 104, 105] : List UInt8)
                                  · rw [if_pos c35] at H
                                    have c35b0 : (t122.toList == ([2, 104, 105] : List UInt8)) = true := beq_iff_eq.mpr c35
                                    have c35b1 : (t122.toList != ([2, 104, 105] : List UInt8)) = false := bne_eq_false_iff_eq.mpr c35
                                    clear c35
                                    by_cases c36 : t123 = true
                                    · subst c36
                                      rw [if_pos rfl] at H
                                      by_cases c37 : t124.toList = ([104, 105] : List UInt8)
                                      · rw [if_pos c37] at H
                                        have c37b0 : (t124.toList == ([104, 105] : List UInt8)) = true := beq_iff_eq.mpr c37
                                        have c37b1 : (t124.toList != ([104, 105] : List UInt8)) = false := bne_eq_false_iff_eq.mpr c37
                                        clear c37
                                        by_cases c38 : t125 = 4
                                        · rw [if_pos c38] at H
                                          have c38b0 : (t125 == 4) = true := beq_iff_eq.mpr c38
                                          have c38b1 : (t125 != 4) = false := bne_eq_false_iff_eq.mpr c38
                                          clear c38
                                          by_cases c39 : t126 = 0
                                          · rw [if_pos c39] at H
                                            have c39b0 : (t126 == 0) = true := beq_iff_eq.mpr c39
                                            have c39b1 : (t126 != 0) = false := bne_eq_false_iff_eq.mpr c39
                                            clear c39
                                            by_cases c40 : t129 = 2
                                            · rw [if_pos c40] at H
                                              have c40b0 : (t129 == 2) = true := beq_iff_eq.mpr c40
                                              have c40b1 : (t129 != 2) = false := bne_eq_false_iff_eq.mpr c40
                                              clear c40
                                              by_cases c41 : t130 = 256
                                              · rw [if_pos c41] at H
                                                have c41b0 : (t130 == 256) = true := beq_iff_eq.mpr c41
                                                have c41b1 : (t130 != 256) = false := bne_eq_false_iff_eq.mpr c41
                                                clear c41
                                                by_cases c42 : t131 = true
                                                · subst c42
                                                  rw [if_pos rfl] at H
                                                  obtain rfl := Option.some.inj H
                                                  go_enter Try.func17, Try.ntmps17
                                                  go_wp2_with (first | ((with_reducible refine gate_callee (f := 20) rfl ?_); refine goesL_ (some 20) rfl rfl Try.func20 (by kernel_rfl) rfl #[.string (⟨#[120, 1, 2, 121]⟩ : ByteArray), .int .i64 1, .int .i64 2] rfl (by (try simp only [List.map_toArray, List.map_cons, List.map_nil]); first | done | rfl | (simp only [List.length_drop, List.length_take]; rfl)) ?_; (with_reducible refine (nums_Number.calls (⟨#[120, 1, 2, 121]⟩ : ByteArray) 1 2 t116 t117 t118 _ A1.out).mono ?_); rintro e w43 ⟨rfl, hb⟩; refine ⟨_, rfl, ?_⟩; replace HB := Aside0.mk (below_step (bl HB) hb); (try clear hb); (try clear hb2); (try clear hk); (try clear hi)) | (go_at_call 20; (with_reducible refine (nums_Number.calls (⟨#[120, 1, 2, 121]⟩ : ByteArray) 1 2 t116 t117 t118 _ A1.out).mono ?_); rintro e w43 ⟨rfl, hb⟩; replace HB := Aside0.mk (below_step (bl HB) hb); (try clear hb); (try clear hb2); (try clear hk); (try clear hi)) | ((with_reducible refine gate_callee (f := 20) rfl ?_); refine goesL_ (some 25) rfl rfl Try.func20 (by kernel_rfl) rfl #[.string (⟨#[97, 98, 99]⟩ : ByteArray), .int .i64 2, .int .i64 2] rfl (by (try simp only [List.map_toArray, List.map_cons, List.map_nil]); first | done | rfl | (simp only [List.length_drop, List.length_take]; rfl)) ?_; (with_reducible refine (nums_Number.calls (⟨#[97, 98, 99]⟩ : ByteArray) 2 2 t119 t120 t121 _ A2.out).mono ?_); rintro e w44 ⟨rfl, hb⟩; refine ⟨_, rfl, ?_⟩; replace HB := Aside0.mk (below_step (bl HB) hb); (try clear hb); (try clear hb2); (try clear hk); (try clear hi)) | (go_at_call 20; (with_reducible refine (nums_Number.calls (⟨#[97, 98, 99]⟩ : ByteArray) 2 2 t119 t120 t121 _ A2.out).mono ?_); rintro e w44 ⟨rfl, hb⟩; replace HB := Aside0.mk (below_step (bl HB) hb); (try clear hb); (try clear hb2); (try clear hk); (try clear hi)) | ((with_reducible refine gate_callee (f := 24) rfl ?_); refine goesL_ (some 30) rfl rfl Try.func24 (by kernel_rfl) rfl #[.string (⟨#[104, 105]⟩ : ByteArray)] rfl (by (try simp only [List.map_toArray, List.map_cons, List.map_nil]); first | done | rfl | (simp only [List.length_drop, List.length_take]; rfl)) ?_; (with_reducible refine (nums_Put.calls (⟨#[104, 105]⟩ : ByteArray) t122 true _ A3.out).mono ?_); rintro e w45 ⟨rfl, hb⟩; refine ⟨_, rfl, ?_⟩; replace HB := Aside0.mk (below_step (bl HB) hb); (try clear hb); (try clear hb2); (try clear hk); (try clear hi)) | (go_at_call 24; (with_reducible refine (nums_Put.calls (⟨#[104, 105]⟩ : ByteArray) t122 true _ A3.out).mono ?_); rintro e w45 ⟨rfl, hb⟩; replace HB := Aside0.mk (below_step (bl HB) hb); (try clear hb); (try clear hb2); (try clear hk); (try clear hi)) | ((with_reducible refine gate_callee (f := 26) rfl ?_); refine goesL_ (some 36) rfl rfl Try.func26 (by kernel_rfl) rfl #[.string ((⟨#[122]⟩ : ByteArray) ++ t122), .int .i64 1] rfl (by (try simp only [List.map_toArray, List.map_cons, List.map_nil]); first | done | rfl | (simp only [List.length_drop, List.length_take]; rfl)) ?_; (with_reducible refine (nums_Text.calls ((⟨#[122]⟩ : ByteArray) ++ t122) 1 t124 t125 t126 _ A5.out).mono ?_); rintro e w46 ⟨rfl, hb⟩; refine ⟨_, rfl, ?_⟩; replace HB := Aside0.mk (below_step (bl HB) hb); (try clear hb); (try clear hb2); (try clear hk); (try clear hi)) | (go_at_call 26; (with_reducible refine (nums_Text.calls ((⟨#[122]⟩ : ByteArray) ++ t122) 1 t124 t125 t126 _ A5.out).mono ?_); rintro e w46 ⟨rfl, hb⟩; replace HB := Aside0.mk (below_step (bl HB) hb); (try clear hb); (try clear hb2); (try clear hk); (try clear hi)) | ((with_reducible refine gate_callee (f := 26) rfl ?_); refine goesL_ (some 41) rfl rfl Try.func26 (by kernel_rfl) rfl #[.string (⟨#[5, 97, 98]⟩ : ByteArray), .int .i64 0] rfl (by (try simp only [List.map_toArray, List.map_cons, List.map_nil]); first | done | rfl | (simp only [List.length_drop, List.length_take]; rfl)) ?_; (with_reducible refine (nums_Text.calls (⟨#[5, 97, 98]⟩ : ByteArray) 0 t127 t128 t129 _ A6.out).mono ?_); rintro e w47 ⟨rfl, hb⟩; refine ⟨_, rfl, ?_⟩; replace HB := Aside0.mk (below_step (bl HB) hb); (try clear hb); (try clear hb2); (try clear hk); (try clear hi)) | (go_at_call 26; (with_reducible refine (nums_Text.calls (⟨#[5, 97, 98]⟩ : ByteArray) 0 t127 t128 t129 _ A6.out).mono ?_); rintro e w47 ⟨rfl, hb⟩; replace HB := Aside0.mk (below_step (bl HB) hb); (try clear hb); (try clear hb2); (try clear hk); (try clear hi)) | ((with_reducible refine gate_callee (f := 18) rfl ?_); refine goesL_ (some 46) rfl rfl Try.func18 (by kernel_rfl) rfl #[.string (⟨#[1, 0]⟩ : ByteArray)] rfl (by (try simp only [List.map_toArray, List.map_cons, List.map_nil]); first | done | rfl | (simp only [List.length_drop, List.length_take]; rfl)) ?_; (with_reducible refine (nums_Narrow.calls (⟨#[1, 0]⟩ : ByteArray) t130 true _ A7.out).mono ?_); rintro e w48 ⟨rfl, hb⟩; refine ⟨_, rfl, ?_⟩; replace HB := Aside0.mk (below_step (bl HB) hb); (try clear hb); (try clear hb2); (try clear hk); (try clear hi)) | (go_at_call 18; (with_reducible refine (nums_Narrow.calls (⟨#[1, 0]⟩ : ByteArray) t130 true _ A7.out).mono ?_); rintro e w48 ⟨rfl, hb⟩; replace HB := Aside0.mk (below_step (bl HB) hb); (try clear hb); (try clear hb2); (try clear hk); (try clear hi)) | ((with_reducible refine gate_callee (f := 18) rfl ?_); refine goesL_ (some 50) rfl rfl Try.func18 (by kernel_rfl) rfl #[.string (⟨#[49, 50, 51, 52, 53, 54, 55, 56, 57]⟩ : ByteArray)] rfl (by (try simp only [List.map_toArray, List.map_cons, List.map_nil]); first | done | rfl | (simp only [List.length_drop, List.length_take]; rfl)) ?_; (with_reducible refine (nums_Narrow.calls (⟨#[49, 50, 51, 52, 53, 54, 55, 56, 57]⟩ : ByteArray) t132 t133 _ A8.out).mono ?_); rintro e w49 ⟨rfl, hb⟩; refine ⟨_, rfl, ?_⟩; replace HB := Aside0.mk (below_step (bl HB) hb); (try clear hb); (try clear hb2); (try clear hk); (try clear hi)) | (go_at_call 18; (with_reducible refine (nums_Narrow.calls (⟨#[49, 50, 51, 52, 53, 54, 55, 56, 57]⟩ : ByteArray) t132 t133 _ A8.out).mono ?_); rintro e w49 ⟨rfl, hb⟩; replace HB := Aside0.mk (below_step (bl HB) hb); (try clear hb); (try clear hb2); (try clear hk); (try clear hi)) | ((with_reducible refine gate_callee (f := 9) rfl ?_); refine goesL_ (some 53) rfl rfl Try.func9 (by kernel_rfl) rfl #[.int .u64 5, .int .u64 6, .int .u64 10] rfl (by (try simp only [List.map_toArray, List.map_cons, List.map_nil]); first | done | rfl | (simp only [List.length_drop, List.length_take]; rfl)) ?_; (with_reducible refine (nums_Add.calls 5 6 10 t134 _ A9.out).mono ?_); rintro e w50 ⟨rfl, hb⟩; refine ⟨_, rfl, ?_⟩; replace HB := Aside0.mk (below_step (bl HB) hb); (try clear hb); (try clear hb2); (try clear hk); (try clear hi)) | (go_at_call 9; (with_reducible refine (nums_Add.calls 5 6 10 t134 _ A9.out).mono ?_); rintro e w50 ⟨rfl, hb⟩; replace HB := Aside0.mk (below_step (bl HB) hb); (try clear hb); (try clear hb2); (try clear hk); (try clear hi)) | (go_at_call 9; (with_reducible refine (nums_Add.calls 5 6 12 t135 _ A11.out).mono ?_); rintro e w51 ⟨rfl, hb⟩; replace HB := Aside0.mk (below_step (bl HB) hb); (try clear hb); (try clear hb2); (try clear hk); (try clear hi)) | (go_at_call 11; (with_reducible refine (nums_Mul.calls k 1099511627776 1099511627776 18446744073709551615 t136 _ A13.out).mono ?_); rintro e w52 ⟨rfl, hb⟩; replace HB := Aside0.mk (below_step (bl HB) hb); (try clear hb); (try clear hb2); (try clear hk); (try clear hi)) | (go_at_call 11; (with_reducible refine (nums_Mul.calls k 3 4 100 t137 _ A15.out).mono ?_); rintro e w53 ⟨rfl, hb⟩; replace HB := Aside0.mk (below_step (bl HB) hb); (try clear hb); (try clear hb2); (try clear hk); (try clear hi)) | (go_at_call 13; (with_reducible refine (nums_Sub.calls 3 5 t138 _ A17.out).mono ?_); rintro e w54 ⟨rfl, hb⟩; replace HB := Aside0.mk (below_step (bl HB) hb); (try clear hb); (try clear hb2); (try clear hk); (try clear hi)) | (go_at_call 13; (with_reducible refine (nums_Sub.calls 5 3 t139 _ A19.out).mono ?_); rintro e w55 ⟨rfl, hb⟩; replace HB := Aside0.mk (below_step (bl HB) hb); (try clear hb); (try clear hb2); (try clear hk); (try clear hi)) | (go_at_call 15; (with_reducible refine (nums_Up.calls 7 3 t140 _ A21.out).mono ?_); rintro e w56 ⟨rfl, hb⟩; replace HB := Aside0.mk (below_step (bl HB) hb); (try clear hb); (try clear hb2); (try clear hk); (try clear hi)) | (go_at_call 15; (with_reducible refine (nums_Up.calls 6 3 t141 _ A23.out).mono ?_); rintro e w57 ⟨rfl, hb⟩; replace HB := Aside0.mk (below_step (bl HB) hb); (try clear hb); (try clear hb2); (try clear hk); (try clear hi)) | (go_at_call 15; (with_reducible refine (nums_Up.calls 6 0 t142 _ A25.out).mono ?_); rintro e w58 ⟨rfl, hb⟩; replace HB := Aside0.mk (below_step (bl HB) hb); (try clear hb); (try clear hb2); (try clear hk); (try clear hi)) | (go_at_call 22; (with_reducible refine (nums_Wide.calls k 258 2 t143 _ A27.out).mono ?_); rintro e w59 ⟨rfl, hb⟩; replace HB := Aside0.mk (below_step (bl HB) hb); (try clear hb); (try clear hb2); (try clear hk); (try clear hi)) | (go_at_call 22; (with_reducible refine (nums_Wide.calls k 1 9 t144 _ A29.out).mono ?_); rintro e w60 ⟨rfl, hb⟩; replace HB := Aside0.mk (below_step (bl HB) hb); (try clear hb); (try clear hb2); (try clear hk); (try clear hi)))
                                                  go_ret
                                                  exact ⟨by first | (with_reducible rfl) | rfl | (simp [errW_none, errW_some] <;> rfl) | (simp [*, errW_none, errW_some] <;> rfl), bl HB⟩
                                                · replace c42 := Bool.eq_false_iff.mpr c42
                                                  subst c42
                                                  rw [if_neg (show ¬ (false = true) by decide)] at H
                                                  exact absurd H (by simp)
                                              · rw [if_neg c41] at H
                                                exact absurd H (by simp)
                                            · rw [if_neg c40] at H
                                              exact absurd H (by simp)
                                          · rw [if_neg c39] at H
                                            exact absurd H (by simp)
                                        · rw [if_neg c38] at H
                                          exact absurd H (by simp)
                                      · rw [if_neg c37] at H
                                        exact absurd H (by simp)
                                    · replace c36 := Bool.eq_false_iff.mpr c36
                                      subst c36
                                      rw [if_neg (show ¬ (false = true) by decide)] at H
                                      exact absurd H (by simp)
                                  · rw [if_neg c35] at H
                                    exact absurd H (by simp)
                                · rw [if_neg c34] at H
                                  exact absurd H (by simp)
                              · rw [if_neg c33] at H
                                exact absurd H (by simp)
                            · rw [if_neg c32] at H
                              exact absurd H (by simp)
                          · rw [if_neg c31] at H
                            exact absurd H (by simp)
                        · rw [if_neg c30] at H
                          exact absurd H (by simp)
                      · rw [if_neg c28] at H
                        exact absurd H (by simp)
                    · rw [if_neg c26] at H
                      exact absurd H (by simp)
                  · rw [if_neg c24] at H
                    exact absurd H (by simp)
                · rw [if_neg c22] at H
                  exact absurd H (by simp)
              · rw [if_neg c20] at H
                exact absurd H (by simp)
            · rw [if_neg c18] at H
              exact absurd H (by simp)
          · rw [if_neg c16] at H
            exact absurd H (by simp)
        · rw [if_neg c14] at H
          exact absurd H (by simp)
      · rw [if_neg c12] at H
        exact absurd H (by simp)
    · rw [if_neg c10] at H
      exact absurd H (by simp)
  · rw [if_neg c4] at H
    exact absurd H (by simp)

end Go.Proofs.Ytbjnkhlepmocjaa.Q
