-- Laid by wip/tools/hprint.py, a program of this repo, over the kit's print; not a text of print.sh.
import Derived.Test.YthplifnhibahpaaQ0
import Derived.Test.YthplifnhibahpaaQ15
import Derived.Test.YthplifnhibahpaaQ16
import Derived.Test.YthplifnhibahpaaQ17
import Derived.Test.YthplifnhibahpaaQ22
import Derived.Test.YthplifnhibahpaaQ25
import Derived.Test.YthplifnhibahpaaQ26
namespace Go.Proofs.Ythplifnhibahpaa.Q
open Go.RowKit Go.Proofs.Ythplifnhibahpaa.Zip Go.Proofs.YthplifnhibahpaaW.PrintWords Go.Proofs.YthplifnhibahpaaW.PrintLast Go.Proofs.YthplifnhibahpaaW.PrintMore
attribute [local go_sem] max2_int min2_int max_two min_two max_three min_three max_four min_four   -- for this text's walks alone
set_option linter.unusedVariables false
set_option linter.unusedSimpArgs false

/-! ### sandglasslaw16_BooksSets: function 4 -/
def sandglasslaw16_BooksSets.f (k : Nat) (l0 : List (S43)) (a1 : Int) (a2_0 : Int) (a2_1 : Int) (a2_2 : Int) (a2_3 : Int) : Option (Bool) := if (l0.length : Int) > 20 then ((sandglasslaw16_live.f k).bind fun t267 => (some t267)) else ((books_Set.f k l0 a1 a2_0 a2_1 a2_2 a2_3).bind fun bt268 => ((sandglassref16_Set.f k l0 a1 a2_0 a2_1 a2_2 a2_3).bind fun bt273 => ((books_Delete.f k l0 a1).bind fun bt278 => ((sandglassref16_Delete.f k l0 a1).bind fun bt282 => ((sandglassref16_Same.f k bt268.1 bt273.1).bind fun t286 => (if t286 = true then (if bt268.2.1 = bt273.2.1 then (if bt268.2.2 = bt273.2.2 then ((sandglassref16_Same.f k bt278.1 bt282.1).bind fun t287 => (if t287 = true then (if bt278.2 = bt282.2 then ((sandglasslaw16_live.f k).bind fun t288 => (some t288)) else (none)) else (none))) else (none)) else (none)) else (none)))))))
theorem sandglasslaw16_BooksSets.mono : ∀ a0 a1 a2 a3 a4 a5 k, LeO (sandglasslaw16_BooksSets.f k a0 a1 a2 a3 a4 a5) (sandglasslaw16_BooksSets.f (k + 1) a0 a1 a2 a3 a4 a5) := by
  intro a0 a1 a2 a3 a4 a5 k
  unfold sandglasslaw16_BooksSets.f
  repeat' first
      | (with_reducible exact books_Delete.mono _ _ _)
      | (with_reducible exact books_Set.mono _ _ _ _ _ _ _)
      | (with_reducible exact sandglasslaw16_live.mono _)
      | (with_reducible exact sandglassref16_Delete.mono _ _ _)
      | (with_reducible exact sandglassref16_Same.mono _ _ _)
      | (with_reducible exact sandglassref16_Set.mono _ _ _ _ _ _ _)
      | (with_reducible exact LeO.refl _)
      | (with_reducible exact LeO.none _)
      | (with_reducible refine LeO.ite ?_ ?_)
      | (with_reducible refine LeO.bind ?_ (fun _ => ?_))
      | exact books_Delete.mono _ _ _
      | exact books_Set.mono _ _ _ _ _ _ _
      | exact sandglasslaw16_live.mono _
      | exact sandglassref16_Delete.mono _ _ _
      | exact sandglassref16_Same.mono _ _ _
      | exact sandglassref16_Set.mono _ _ _ _ _ _ _
      | exact LeO.none _
      | refine LeO.ite ?_ ?_
      | refine LeO.bind ?_ (fun _ => ?_)
set_option maxHeartbeats 8000000 in
set_option maxRecDepth 100000 in
theorem sandglasslaw16_BooksSets.calls (k : Nat) (A0 : Option Addr) (c0 : Nat) (l0 : List (S43)) (a1 : Int) (a2_0 : Int) (a2_1 : Int) (a2_2 : Int) (a2_3 : Int) (r : Bool) (w : World) (hr0 : Kd.C k43 w A0 l0.length l0) (hc0 : l0.length ≤ c0) (h : sandglasslaw16_BooksSets.f k l0 a1 a2_0 a2_1 a2_2 a2_3 = some r) :
    Calls Try.prog 4 #[.slice A0 l0.length c0, .int .i64 a1, .agg #[.int .i64 a2_0, .int .i64 a2_1, .int .i64 a2_2, .int .i64 a2_3]] w fun e w' => e = .returned (.bool r) ∧ Below w.heap.size w w' := by
  have hu25 := Try.underlying25
  have HR0 := Aside0.mk hr0
  have HC0 := Aside0.mk hc0
  clear hr0 hc0
  have HB := Aside0.mk (Below.refl w.heap.size w)
  have H : (if (l0.length : Int) > 20 then ((sandglasslaw16_live.f k).bind fun t267 => (some t267)) else ((books_Set.f k l0 a1 a2_0 a2_1 a2_2 a2_3).bind fun bt268 => ((sandglassref16_Set.f k l0 a1 a2_0 a2_1 a2_2 a2_3).bind fun bt273 => ((books_Delete.f k l0 a1).bind fun bt278 => ((sandglassref16_Delete.f k l0 a1).bind fun bt282 => ((sandglassref16_Same.f k bt268.1 bt273.1).bind fun t286 => (if t286 = true then (if bt268.2.1 = bt273.2.1 then (if bt268.2.2 = bt273.2.2 then ((sandglassref16_Same.f k bt278.1 bt282.1).bind fun t287 => (if t287 = true then (if bt278.2 = bt282.2 then ((sandglasslaw16_live.f k).bind fun t288 => (some t288)) else (none)) else (none))) else (none)) else (none)) else (none)))))))) = some r := h
  clear h
  by_cases c4 : (l0.length : Int) > 20
  · rw [if_pos c4] at H
    have c4b0 : decide (20 < (l0.length : Int)) = true := decide_eq_true c4
    have c4b1 : decide (20 < l0.length) = true := decide_eq_true (by omega)
    clear c4
    replace H := Option.bind_eq_some_iff.mp H
    obtain ⟨t267, A50, H⟩ := H
    have A5 := Aside0.mk A50
    clear A50
    obtain rfl := Option.some.inj H
    go_enter Try.func4, Try.ntmps4
    go_wp2_with (first | ((with_reducible refine gate_dst (N := 5) rfl ?_); refine box_event ?hg (N := 5) ?hd (cs := #[.int .i64 a2_0, .int .i64 a2_1, .int .i64 a2_2, .int .i64 a2_3]) (t := 25) ?hr ?_; (case hd => rfl); (case hg => rfl); (case hr => first | (go_simp; done) | (go_simp; rfl)); intro gb266 hg w6 hbox hb; have BK266 := Aside0.mk (hbox); have GW266 := Aside0.mk ((by rw [hg]; exact (below_size (bl HB)) : w.heap.size ≤ gb266)); have GE266 := Aside0.mk ((by rw [hg]; exact (below_size (bl HB)) : w.heap.size ≤ gb266)); replace HB := Aside0.mk (below_step (bl HB) hb); clear hb hbox hg) | ((with_reducible refine gate_callee (f := 8) rfl ?_); refine goesL_ (some 20) rfl rfl Try.func8 (by kernel_rfl) rfl #[] rfl (by (try simp only [List.map_toArray, List.map_cons, List.map_nil]); first | done | rfl | (simp only [List.length_drop, List.length_take]; rfl)) ?_; (with_reducible refine (sandglasslaw16_live.calls k  t267 _ A5.out).mono ?_); rintro e w7 ⟨rfl, hb⟩; refine ⟨_, rfl, ?_⟩; replace BK266 := Aside0.mk (blk_below (bo BK266) hb); replace HB := Aside0.mk (below_step (bl HB) hb); (try clear hb); (try clear hb2); (try clear hk); (try clear hi)))
    go_ret
    exact ⟨by first | (with_reducible rfl) | rfl | (simp [errW_none, errW_some] <;> rfl) | (simp [*, errW_none, errW_some] <;> rfl), bl HB⟩
  · rw [if_neg c4] at H
    have c4b0 : decide (20 < (l0.length : Int)) = false := decide_eq_false c4
    have c4b1 : decide (20 < l0.length) = false := decide_eq_false (by omega)
    clear c4
    replace H := Option.bind_eq_some_iff.mp H
    obtain ⟨⟨t268, t271, t272⟩, A80, H⟩ := H
    have A8 := Aside0.mk A80
    clear A80
    replace H := Option.bind_eq_some_iff.mp H
    obtain ⟨⟨t273, t276, t277⟩, A90, H⟩ := H
    have A9 := Aside0.mk A90
    clear A90
    replace H := Option.bind_eq_some_iff.mp H
    obtain ⟨⟨t278, t281⟩, A100, H⟩ := H
    have A10 := Aside0.mk A100
    clear A100
    replace H := Option.bind_eq_some_iff.mp H
    obtain ⟨⟨t282, t285⟩, A110, H⟩ := H
    have A11 := Aside0.mk A110
    clear A110
    replace H := Option.bind_eq_some_iff.mp H
    obtain ⟨t286, A120, H⟩ := H
    have A12 := Aside0.mk A120
    clear A120
    by_cases c13 : t286 = true
    · subst c13
      rw [if_pos rfl] at H
      by_cases c14 : t271 = t276
      · rw [if_pos c14] at H
        have c14b0 : (t271 == t276) = true := beq_iff_eq.mpr c14
        have c14b1 : (t271 != t276) = false := bne_eq_false_iff_eq.mpr c14
        clear c14
        by_cases c15 : t272 = t277
        · rw [if_pos c15] at H
          have c15b0 : (t272 == t277) = true := beq_iff_eq.mpr c15
          have c15b1 : (t272 != t277) = false := bne_eq_false_iff_eq.mpr c15
          clear c15
          replace H := Option.bind_eq_some_iff.mp H
          obtain ⟨t287, A160, H⟩ := H
          have A16 := Aside0.mk A160
          clear A160
          by_cases c17 : t287 = true
          · subst c17
            rw [if_pos rfl] at H
            by_cases c18 : t281 = t285
            · rw [if_pos c18] at H
              have c18b0 : (t281 == t285) = true := beq_iff_eq.mpr c18
              have c18b1 : (t281 != t285) = false := bne_eq_false_iff_eq.mpr c18
              clear c18
              replace H := Option.bind_eq_some_iff.mp H
              obtain ⟨t288, A190, H⟩ := H
              have A19 := Aside0.mk A190
              clear A190
              obtain rfl := Option.some.inj H
              go_enter Try.func4, Try.ntmps4
              go_wp2_with (first | ((with_reducible refine gate_dst (N := 5) rfl ?_); refine box_event ?hg (N := 5) ?hd (cs := #[.int .i64 a2_0, .int .i64 a2_1, .int .i64 a2_2, .int .i64 a2_3]) (t := 25) ?hr ?_; (case hd => rfl); (case hg => rfl); (case hr => first | (go_simp; done) | (go_simp; rfl)); intro gb266 hg w20 hbox hb; have BK266 := Aside0.mk (hbox); have GW266 := Aside0.mk ((by rw [hg]; exact (below_size (bl HB)) : w.heap.size ≤ gb266)); have GE266 := Aside0.mk ((by rw [hg]; exact (below_size (bl HB)) : w.heap.size ≤ gb266)); replace HB := Aside0.mk (below_step (bl HB) hb); clear hb hbox hg; obtain ⟨hcz21_0, hcz21_1, hcz21_2, hcz21_3⟩ := ce4 BK266; obtain ⟨hfz21_0, hfz21_1, hfz21_2, hfz21_3⟩ := fr4 BK266) | ((with_reducible refine gate_callee (f := 19) rfl ?_); refine goesL_ (some 25) rfl rfl Try.func19 (by kernel_rfl) rfl #[.slice A0 l0.length c0, .int .i64 a1, .agg #[.int .i64 a2_0, .int .i64 a2_1, .int .i64 a2_2, .int .i64 a2_3]] rfl (by (try simp only [List.map_toArray, List.map_cons, List.map_nil]); first | done | rfl | (simp only [List.length_drop, List.length_take]; rfl)) ?_; (with_reducible refine (books_Set.calls k (fun k_ => k_ < w.heap.size) _ _ l0 a1 a2_0 a2_1 a2_2 a2_3 t268 t271 t272 _ ?side1 A8.out).mono ?_); (case side1 => exact Kd.V_mk HC0.out (Kd.F_below (Kd.C_F k43_heap HR0.out) (bl HB))); rintro e w22 ⟨v269, rfl, ho0, hb⟩; refine ⟨_, rfl, ?_⟩; have HO270 := Aside0.mk (Kd.V_lower (Kd.V_mono (ok' := fun k_ => k_ ≠ gb266) ho0 (fun k_ hk_ => Or.elim hk_ (fun hs_ => fun e_ => Nat.not_le.2 hs_ (by rw [e_]; exact GW266.out)) (fun hn_ => (Kd.freshB (bo BK266) k_ hn_)))) (below_size (bl HB))); replace BK266 := Aside0.mk (blk_below (bo BK266) hb); replace HB := Aside0.mk (below_step (bl HB) hb); (try clear hb); (try clear hb2); (try clear hk); (try clear hi); (try clear ho0); obtain ⟨hcz23_0, hcz23_1, hcz23_2, hcz23_3⟩ := ce4 BK266; obtain ⟨hfz23_0, hfz23_1, hfz23_2, hfz23_3⟩ := fr4 BK266) | ((with_reducible refine gate_callee (f := 20) rfl ?_); refine goesL_ (some 33) rfl rfl Try.func20 (by kernel_rfl) rfl #[.slice A0 l0.length c0, .int .i64 a1, .agg #[.int .i64 a2_0, .int .i64 a2_1, .int .i64 a2_2, .int .i64 a2_3]] rfl (by (try simp only [List.map_toArray, List.map_cons, List.map_nil]); first | done | rfl | (simp only [List.length_drop, List.length_take]; rfl)) ?_; (with_reducible refine (sandglassref16_Set.calls k (fun k_ => k_ < w.heap.size) _ _ l0 a1 a2_0 a2_1 a2_2 a2_3 t273 t276 t277 _ ?side1 A9.out).mono ?_); (case side1 => exact Kd.V_mk HC0.out (Kd.F_below (Kd.C_F k43_heap HR0.out) (bl HB))); rintro e w24 ⟨v274, rfl, ho0, hb⟩; refine ⟨_, rfl, ?_⟩; have HO275 := Aside0.mk (Kd.V_lower (Kd.V_mono (ok' := fun k_ => k_ ≠ gb266) ho0 (fun k_ hk_ => Or.elim hk_ (fun hs_ => fun e_ => Nat.not_le.2 hs_ (by rw [e_]; exact GW266.out)) (fun hn_ => (Kd.freshB (bo BK266) k_ hn_)))) (below_size (bl HB))); replace HO270 := vb HO270 hb; replace BK266 := Aside0.mk (blk_below (bo BK266) hb); replace HB := Aside0.mk (below_step (bl HB) hb); (try clear hb); (try clear hb2); (try clear hk); (try clear hi); (try clear ho0)) | ((with_reducible refine gate_callee (f := 21) rfl ?_); refine goesL_ (some 40) rfl rfl Try.func21 (by kernel_rfl) rfl #[.slice A0 l0.length c0, .int .i64 a1] rfl (by (try simp only [List.map_toArray, List.map_cons, List.map_nil]); first | done | rfl | (simp only [List.length_drop, List.length_take]; rfl)) ?_; (with_reducible refine (books_Delete.calls k (fun k_ => k_ < w.heap.size) _ _ l0 a1 t278 t281 _ ?side1 A10.out).mono ?_); (case side1 => exact Kd.V_mk HC0.out (Kd.F_below (Kd.C_F k43_heap HR0.out) (bl HB))); rintro e w25 ⟨v279, rfl, ho0, hb⟩; refine ⟨_, rfl, ?_⟩; have HO280 := Aside0.mk (Kd.V_lower (Kd.V_mono (ok' := fun k_ => k_ ≠ gb266) ho0 (fun k_ hk_ => Or.elim hk_ (fun hs_ => fun e_ => Nat.not_le.2 hs_ (by rw [e_]; exact GW266.out)) (fun hn_ => (Kd.freshB (bo BK266) k_ hn_)))) (below_size (bl HB))); replace HO270 := vb HO270 hb; replace HO275 := vb HO275 hb; replace BK266 := Aside0.mk (blk_below (bo BK266) hb); replace HB := Aside0.mk (below_step (bl HB) hb); (try clear hb); (try clear hb2); (try clear hk); (try clear hi); (try clear ho0)) | ((with_reducible refine gate_callee (f := 22) rfl ?_); refine goesL_ (some 46) rfl rfl Try.func22 (by kernel_rfl) rfl #[.slice A0 l0.length c0, .int .i64 a1] rfl (by (try simp only [List.map_toArray, List.map_cons, List.map_nil]); first | done | rfl | (simp only [List.length_drop, List.length_take]; rfl)) ?_; (with_reducible refine (sandglassref16_Delete.calls k (fun k_ => k_ < w.heap.size) _ _ l0 a1 t282 t285 _ ?side1 A11.out).mono ?_); (case side1 => exact Kd.V_mk HC0.out (Kd.F_below (Kd.C_F k43_heap HR0.out) (bl HB))); rintro e w26 ⟨v283, rfl, ho0, hb⟩; refine ⟨_, rfl, ?_⟩; have HO284 := Aside0.mk (Kd.V_lower (Kd.V_mono (ok' := fun k_ => k_ ≠ gb266) ho0 (fun k_ hk_ => Or.elim hk_ (fun hs_ => fun e_ => Nat.not_le.2 hs_ (by rw [e_]; exact GW266.out)) (fun hn_ => (Kd.freshB (bo BK266) k_ hn_)))) (below_size (bl HB))); replace HO270 := vb HO270 hb; replace HO275 := vb HO275 hb; replace HO280 := vb HO280 hb; replace BK266 := Aside0.mk (blk_below (bo BK266) hb); replace HB := Aside0.mk (below_step (bl HB) hb); (try clear hb); (try clear hb2); (try clear hk); (try clear hi); (try clear ho0); obtain ⟨Ao27, co27, eo27⟩ := Kd.V_slice HO270.out; subst eo27; obtain ⟨Ao28, co28, eo28⟩ := Kd.V_slice HO275.out; subst eo28) | ((with_reducible refine gate_callee (f := 16) rfl ?_); refine goesL_ (some 51) rfl rfl Try.func16 (by kernel_rfl) rfl #[.slice Ao27 t268.length co27, .slice Ao28 t273.length co28] rfl (by (try simp only [List.map_toArray, List.map_cons, List.map_nil]); first | done | rfl | (simp only [List.length_drop, List.length_take]; rfl)) ?_; (with_reducible refine (sandglassref16_Same.calls k _ _ t268 _ _ t273 true _ ?side1 ?side2 ?side3 ?side4 A12.out).mono ?_); (case side1 => repeat (first | exact (Kd.V_reads' HO270.out).2.2 | (with_reducible refine Kd.C_alloc ?_ _) | (with_reducible refine Kd.C_drewN ?_ _) | (with_reducible refine Kd.C_drew ?_))); (case side2 => exact (Kd.V_reads' HO270.out).2.1); (case side3 => repeat (first | exact (Kd.V_reads' HO275.out).2.2 | (with_reducible refine Kd.C_alloc ?_ _) | (with_reducible refine Kd.C_drewN ?_ _) | (with_reducible refine Kd.C_drew ?_))); (case side4 => exact (Kd.V_reads' HO275.out).2.1); rintro e w' ⟨rfl, ⟨nd, rfl⟩⟩; refine ⟨_, rfl, ?_⟩; obtain ⟨Ao29, co29, eo29⟩ := Kd.V_slice HO280.out; subst eo29; obtain ⟨Ao30, co30, eo30⟩ := Kd.V_slice HO284.out; subst eo30) | (go_at_call 16; (with_reducible refine (sandglassref16_Same.calls k _ _ t278 _ _ t282 true _ ?side1 ?side2 ?side3 ?side4 A16.out).mono ?_); (case side1 => repeat (first | exact (Kd.V_reads' HO280.out).2.2 | (with_reducible refine Kd.C_alloc ?_ _) | (with_reducible refine Kd.C_drewN ?_ _) | (with_reducible refine Kd.C_drew ?_))); (case side2 => exact (Kd.V_reads' HO280.out).2.1); (case side3 => repeat (first | exact (Kd.V_reads' HO284.out).2.2 | (with_reducible refine Kd.C_alloc ?_ _) | (with_reducible refine Kd.C_drewN ?_ _) | (with_reducible refine Kd.C_drew ?_))); (case side4 => exact (Kd.V_reads' HO284.out).2.1); rintro e w' ⟨rfl, ⟨nd, rfl⟩⟩) | (go_at_call 8; (with_reducible refine (sandglasslaw16_live.calls k  t288 _ A19.out).mono ?_); rintro e w31 ⟨rfl, hb⟩; replace HO270 := vb HO270 hb; replace HO275 := vb HO275 hb; replace HO280 := vb HO280 hb; replace HO284 := vb HO284 hb; replace BK266 := Aside0.mk (blk_below (bo BK266) hb); replace HB := Aside0.mk (below_step (bl HB) hb); (try clear hb); (try clear hb2); (try clear hk); (try clear hi)))
              go_ret
              exact ⟨by first | (with_reducible rfl) | rfl | (simp [errW_none, errW_some] <;> rfl) | (simp [*, errW_none, errW_some] <;> rfl), bl HB⟩
            · rw [if_neg c18] at H
              exact absurd H (by simp)
          · replace c17 := Bool.eq_false_iff.mpr c17
            subst c17
            rw [if_neg (show ¬ (false = true) by decide)] at H
            exact absurd H (by simp)
        · rw [if_neg c15] at H
          exact absurd H (by simp)
      · rw [if_neg c14] at H
        exact absurd H (by simp)
    · replace c13 := Bool.eq_false_iff.mpr c13
      subst c13
      rw [if_neg (show ¬ (false = true) by decide)] at H
      exact absurd H (by simp)

end Go.Proofs.Ythplifnhibahpaa.Q
