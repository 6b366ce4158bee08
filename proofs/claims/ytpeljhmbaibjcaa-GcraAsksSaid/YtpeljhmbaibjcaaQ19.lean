-- Laid by wip/tools/hprint.py, a program of this repo, over the kit's print; not a text of print.sh.
import Derived.Test.YtpeljhmbaibjcaaQ0
import Derived.Test.YtpeljhmbaibjcaaQ4
import Derived.Test.YtpeljhmbaibjcaaQ8
import Derived.Test.YtpeljhmbaibjcaaQ11
import Derived.Test.YtpeljhmbaibjcaaQ12
import Derived.Test.YtpeljhmbaibjcaaQ14
import Derived.Test.YtpeljhmbaibjcaaQ16
import Derived.Test.YtpeljhmbaibjcaaQ18
namespace Go.Proofs.Ytpeljhmbaibjcaa.Q
open Go.RowKit Go.Proofs.Ytpeljhmbaibjcaa.Zip Go.Proofs.YtpeljhmbaibjcaaW.PrintWords Go.Proofs.YtpeljhmbaibjcaaW.PrintLast Go.Proofs.YtpeljhmbaibjcaaW.PrintMore
attribute [local go_sem] max2_int min2_int max_two min_two max_three min_three max_four min_four   -- for this text's walks alone
set_option linter.unusedVariables false
set_option linter.unusedSimpArgs false

/-! ### gcra_Ask: function 10 -/
mutual
def gcra_Ask.j0 : Nat → Int → Int → Bool → Int → Int → Int → Int → Int → Int → List Int → List (S57) → Option (Int × Int × List Int × (List (S57)) × Bool × Int × Int × Int)
  | 0, _, _, _, _, _, _, _, _, _, _, _ => none
  | k + 1, x2, x3, x27, x125000, x125001, x125002, x125003, x126000, x126001, x126002, x126003 => if x27 = true then (some (x126000, x126001, x126002, x126003, false, 0, 0, 0)) else ((gcra_level.f k x125000 x125001 x125002 x125003 x126000 x126001 x126002 x126003 (mx x2 x126000)).bind fun t131 => ((gcra_of.f k x125000 x125001 x125002 x125003 x125001).bind fun t132 => ((gcra_of.f k x125000 x125001 x125002 x125003 x3).bind fun t133 => (if (IntKind.u64.wrap (t131 + t133)) ≤ t132 then (gcra_Ask.j1 k (mx x2 x126000) (IntKind.u64.wrap (t131 + t133)) t132 x125000 x125001 x125002 x125003 true 0 0 0) else (if x3 > x125001 then (gcra_Ask.j1 k (mx x2 x126000) t131 t132 x125000 x125001 x125002 x125003 false 0 2199023255552 0) else ((gcra_parts_above.f (IntKind.u64.wrap (t131 + t133)) t132).bind fun t135 => ((gcra_parts_ticks.f t135 x125000 x125001 x125002 x125003).bind fun t136 => (gcra_Ask.j1 k (mx x2 x126000) t131 t132 x125000 x125001 x125002 x125003 false 0 t136 0))))))))
def gcra_Ask.j1 : Nat → Int → Int → Int → Int → Int → Int → Int → Bool → Int → Int → Int → Option (Int × Int × List Int × (List (S57)) × Bool × Int × Int × Int)
  | 0, _, _, _, _, _, _, _, _, _, _, _ => none
  | k + 1, x2, x10, x11, x125000, x125001, x125002, x125003, x135000, x135001, x135002, x135003 => if x125002 = 0 then (none) else ((gcra_parts_ticks.f x10 x125000 x125001 x125002 x125003).bind fun t137 => (some (x2, wrap64 (x10), ([] : List Int), ([] : List (S57)), x135000, wrap64 (Int.tdiv (wrap64 (IntKind.u64.wrap (x11 - x10))) x125002), x135002, t137)))
end
def gcra_Ask.f (k : Nat) (a0_0 : Int) (a0_1 : Int) (a0_2 : Int) (a0_3 : Int) (a1_0 : Int) (a1_1 : Int) (l1_2 : List Int) (l1_3 : List (S57)) (a2 : Int) (a3 : Int) : Option (Int × Int × List Int × (List (S57)) × Bool × Int × Int × Int) := (gcra_May.f k a0_0 a0_1 a0_2 a0_3 a1_0 a1_1 l1_2 l1_3).bind fun t128 => (if t128 = true then ((gcra_time.f a2).bind fun t129 => (if t129 = true then ((policy_Weighs.f a3).bind fun t130 => (gcra_Ask.j0 k a2 a3 (!t130) a0_0 a0_1 a0_2 a0_3 a1_0 a1_1 l1_2 l1_3)) else (gcra_Ask.j0 k a2 a3 true a0_0 a0_1 a0_2 a0_3 a1_0 a1_1 l1_2 l1_3))) else (gcra_Ask.j0 k a2 a3 true a0_0 a0_1 a0_2 a0_3 a1_0 a1_1 l1_2 l1_3))
theorem gcra_Ask.mono_l : ∀ k, (∀ y0 y1 y2 y3 y4 y5 y6 y7 y8 y9 y10, LeO (gcra_Ask.j0 k y0 y1 y2 y3 y4 y5 y6 y7 y8 y9 y10) (gcra_Ask.j0 (k + 1) y0 y1 y2 y3 y4 y5 y6 y7 y8 y9 y10)) ∧ (∀ y0 y1 y2 y3 y4 y5 y6 y7 y8 y9 y10, LeO (gcra_Ask.j1 k y0 y1 y2 y3 y4 y5 y6 y7 y8 y9 y10) (gcra_Ask.j1 (k + 1) y0 y1 y2 y3 y4 y5 y6 y7 y8 y9 y10))
  | 0 => ⟨fun _ _ _ _ _ _ _ _ _ _ _ r h => by simp [gcra_Ask.j0] at h, fun _ _ _ _ _ _ _ _ _ _ _ r h => by simp [gcra_Ask.j1] at h⟩
  | k + 1 => by
    obtain ⟨ih0, ih1⟩ := gcra_Ask.mono_l k
    refine ⟨?_, ?_⟩
    · intro y0 y1 y2 y3 y4 y5 y6 y7 y8 y9 y10
      unfold gcra_Ask.j0
      repeat' first
      | (with_reducible exact ih0 _ _ _ _ _ _ _ _ _ _ _)
      | (with_reducible exact ih1 _ _ _ _ _ _ _ _ _ _ _)
      | (with_reducible exact gcra_May.mono _ _ _ _ _ _ _ _ _)
      | (with_reducible exact gcra_level.mono _ _ _ _ _ _ _ _ _ _)
      | (with_reducible exact gcra_of.mono _ _ _ _ _ _)
      | (with_reducible exact LeO.refl _)
      | (with_reducible exact LeO.none _)
      | (with_reducible refine LeO.ite ?_ ?_)
      | (with_reducible refine LeO.bind ?_ (fun _ => ?_))
      | exact ih0 _ _ _ _ _ _ _ _ _ _ _
      | exact ih1 _ _ _ _ _ _ _ _ _ _ _
      | exact gcra_May.mono _ _ _ _ _ _ _ _ _
      | exact gcra_level.mono _ _ _ _ _ _ _ _ _ _
      | exact gcra_of.mono _ _ _ _ _ _
      | exact LeO.none _
      | refine LeO.ite ?_ ?_
      | refine LeO.bind ?_ (fun _ => ?_)
    · intro y0 y1 y2 y3 y4 y5 y6 y7 y8 y9 y10
      unfold gcra_Ask.j1
      repeat' first
      | (with_reducible exact ih0 _ _ _ _ _ _ _ _ _ _ _)
      | (with_reducible exact ih1 _ _ _ _ _ _ _ _ _ _ _)
      | (with_reducible exact gcra_May.mono _ _ _ _ _ _ _ _ _)
      | (with_reducible exact gcra_level.mono _ _ _ _ _ _ _ _ _ _)
      | (with_reducible exact gcra_of.mono _ _ _ _ _ _)
      | (with_reducible exact LeO.refl _)
      | (with_reducible exact LeO.none _)
      | (with_reducible refine LeO.ite ?_ ?_)
      | (with_reducible refine LeO.bind ?_ (fun _ => ?_))
      | exact ih0 _ _ _ _ _ _ _ _ _ _ _
      | exact ih1 _ _ _ _ _ _ _ _ _ _ _
      | exact gcra_May.mono _ _ _ _ _ _ _ _ _
      | exact gcra_level.mono _ _ _ _ _ _ _ _ _ _
      | exact gcra_of.mono _ _ _ _ _ _
      | exact LeO.none _
      | refine LeO.ite ?_ ?_
      | refine LeO.bind ?_ (fun _ => ?_)
theorem gcra_Ask.mono : ∀ a0 a1 a2 a3 a4 a5 a6 a7 a8 a9 k, LeO (gcra_Ask.f k a0 a1 a2 a3 a4 a5 a6 a7 a8 a9) (gcra_Ask.f (k + 1) a0 a1 a2 a3 a4 a5 a6 a7 a8 a9) := by
  intro a0 a1 a2 a3 a4 a5 a6 a7 a8 a9 k
  obtain ⟨ih0, ih1⟩ := gcra_Ask.mono_l k
  unfold gcra_Ask.f
  repeat' first
      | (with_reducible exact ih0 _ _ _ _ _ _ _ _ _ _ _)
      | (with_reducible exact ih1 _ _ _ _ _ _ _ _ _ _ _)
      | (with_reducible exact gcra_May.mono _ _ _ _ _ _ _ _ _)
      | (with_reducible exact gcra_level.mono _ _ _ _ _ _ _ _ _ _)
      | (with_reducible exact gcra_of.mono _ _ _ _ _ _)
      | (with_reducible exact LeO.refl _)
      | (with_reducible exact LeO.none _)
      | (with_reducible refine LeO.ite ?_ ?_)
      | (with_reducible refine LeO.bind ?_ (fun _ => ?_))
      | exact ih0 _ _ _ _ _ _ _ _ _ _ _
      | exact ih1 _ _ _ _ _ _ _ _ _ _ _
      | exact gcra_May.mono _ _ _ _ _ _ _ _ _
      | exact gcra_level.mono _ _ _ _ _ _ _ _ _ _
      | exact gcra_of.mono _ _ _ _ _ _
      | exact LeO.none _
      | refine LeO.ite ?_ ?_
      | refine LeO.bind ?_ (fun _ => ?_)
def gcra_Ask.T4 : Bool × List (List Nat × List Nat) := (true, [([], []), ([], []), ([], []), ([0, 1, 2], [0, 1, 2]), ([], []), ([], []), ([5], [5]), ([4, 6, 3], [4, 6]), ([3, 7, 0, 1, 2, 3], [3]), ([7, 8, 0, 1, 2, 3, 4, 5, 6, 7, 8], [7])])
def gcra_Ask.B4 : List Nat := [0, 0, 0, 7, 0, 0, 32, 127, 255, 511]
theorem gcra_Ask.tab4 : rtab .any (opsOf Try.f10 4) = gcra_Ask.T4 := by kernel_rfl
theorem gcra_Ask.bits4 : waitsOk gcra_Ask.T4.2 gcra_Ask.B4 = true := by kernel_rfl
set_option maxHeartbeats 8000000 in
set_option maxRecDepth 100000 in
theorem gcra_Ask.calls (k : Nat) (a0_0 : Int) (a0_1 : Int) (a0_2 : Int) (a0_3 : Int) (a1_0 : Int) (a1_1 : Int) (P1_2_ : Nat → Prop) (A1_2 : Option Addr) (c1_2 : Nat) (l1_2 : List Int) (P1_3_ : Nat → Prop) (A1_3 : Option Addr) (c1_3 : Nat) (l1_3 : List (S57)) (a2 : Int) (a3 : Int) (r1 : Int) (r2 : Int) (r3 : List Int) (r4 : List (S57)) (r5 : Bool) (r6 : Int) (r7 : Int) (r8 : Int) (w : World) (hs1_2 : Kd.V (Kd.int .i64) 3 w w.heap.size (fun k_ => P1_2_ k_) (.slice A1_2 l1_2.length c1_2) l1_2) (hs1_3 : Kd.V k57 57 w w.heap.size (fun k_ => P1_3_ k_) (.slice A1_3 l1_3.length c1_3) l1_3) (h : gcra_Ask.f k a0_0 a0_1 a0_2 a0_3 a1_0 a1_1 l1_2 l1_3 a2 a3 = some (r1, r2, r3, r4, r5, r6, r7, r8)) :
    Calls Try.prog 10 #[.agg #[.int .i64 a0_0, .int .i64 a0_1, .int .i64 a0_2, .int .i64 a0_3], .agg #[.int .i64 a1_0, .int .i64 a1_1, .slice A1_2 l1_2.length c1_2, .slice A1_3 l1_3.length c1_3], .int .i64 a2, .int .i64 a3] w fun e w' => ∃ v2_ v3_ : Value, e = .returned (.tuple #[.agg #[.int .i64 r1, .int .i64 r2, v2_, v3_], .agg #[.bool r5, .int .i64 r6, .int .i64 r7, .int .i64 r8]]) ∧ Kd.V (Kd.int .i64) 3 w' w.heap.size (fun k_ => ((P1_2_ k_ ∨ P1_3_ k_) ∨ w.heap.size ≤ k_)) v2_ r3 ∧ Kd.V k57 57 w' w.heap.size (fun k_ => ((P1_2_ k_ ∨ P1_3_ k_) ∨ w.heap.size ≤ k_)) v3_ r4 ∧ Below w.heap.size w w' := by
  have hu23 := Try.underlying23
  have hu27 := Try.underlying27
  have hu32 := Try.underlying32
  have HO1_2 := Aside0.mk (show Kd.V (Kd.int .i64) 3 w w.heap.size (fun k_ => ((P1_2_ k_ ∨ P1_3_ k_) ∨ w.heap.size ≤ k_)) (.slice A1_2 l1_2.length c1_2) l1_2 from Kd.V_mono hs1_2 (fun k_ hk => .inl (.inl hk)))
  have HO1_3 := Aside0.mk (show Kd.V k57 57 w w.heap.size (fun k_ => ((P1_2_ k_ ∨ P1_3_ k_) ∨ w.heap.size ≤ k_)) (.slice A1_3 l1_3.length c1_3) l1_3 from Kd.V_mono hs1_3 (fun k_ hk => .inl (.inr hk)))
  have HB := Aside0.mk (Below.refl w.heap.size w)
  have H : ((gcra_May.f k a0_0 a0_1 a0_2 a0_3 a1_0 a1_1 l1_2 l1_3).bind fun t128 => (if t128 = true then ((gcra_time.f a2).bind fun t129 => (if t129 = true then ((policy_Weighs.f a3).bind fun t130 => (gcra_Ask.j0 k a2 a3 (!t130) a0_0 a0_1 a0_2 a0_3 a1_0 a1_1 l1_2 l1_3)) else (gcra_Ask.j0 k a2 a3 true a0_0 a0_1 a0_2 a0_3 a1_0 a1_1 l1_2 l1_3))) else (gcra_Ask.j0 k a2 a3 true a0_0 a0_1 a0_2 a0_3 a1_0 a1_1 l1_2 l1_3))) = some (r1, r2, r3, r4, r5, r6, r7, r8) := h
  clear h
  have HC5 := Aside0.mk H
  clear H
  go_enter Try.func10, Try.ntmps10
  go_upto_region 1 with (first | ((with_reducible refine gate_dst (N := 4) rfl ?_); refine box_event ?hg (N := 4) ?hd (cs := #[.int .i64 a0_0, .int .i64 a0_1, .int .i64 a0_2, .int .i64 a0_3]) (t := 23) ?hr ?_; (case hd => rfl); (case hg => rfl); (case hr => first | (go_simp; done) | (go_simp; rfl)); intro gb124 hg w6 hbox hb; have BK124 := Aside0.mk (hbox); have GW124 := Aside0.mk ((by rw [hg]; exact (below_size (bl HB)) : w.heap.size ≤ gb124)); have GE124 := Aside0.mk ((by rw [hg]; exact (below_size (bl HB)) : w.heap.size ≤ gb124)); replace HO1_2 := ve HO1_2 hg hb; replace HO1_3 := ve HO1_3 hg hb; replace HB := Aside0.mk (below_step (bl HB) hb); clear hb hbox hg) | ((with_reducible refine gate_dst (N := 5) rfl ?_); refine box_event ?hg (N := 5) ?hd (cs := #[.int .i64 a1_0, .int .i64 a1_1, .slice A1_2 l1_2.length c1_2, .slice A1_3 l1_3.length c1_3]) (t := 27) ?hr ?_; (case hd => rfl); (case hg => rfl); (case hr => first | (go_simp; done) | (go_simp; rfl)); intro gb125 hg w7 hbox hb; have BK125 := Aside0.mk (hbox); have GW125 := Aside0.mk ((by rw [hg]; exact (below_size (bl HB)) : w.heap.size ≤ gb125)); have GE125 := Aside0.mk ((by rw [hg]; exact (below_size (bl HB)) : w.heap.size ≤ gb125)); have NB124_125 := nb BK124 hg; have NB125_124 := bn BK124 hg; replace HO1_2 := ve HO1_2 hg hb; replace HO1_3 := ve HO1_3 hg hb; replace BK124 := Aside0.mk (blk_below (bo BK124) hb); replace HB := Aside0.mk (below_step (bl HB) hb); clear hb hbox hg) | ((with_reducible refine gate_dst (N := 8) rfl ?_); refine box_event ?hg (N := 8) ?hd (cs := #[.int .i64 0, .int .i64 0, .slice none 0 0, .slice none 0 0]) (t := 27) ?hr ?_; (case hd => rfl); (case hg => rfl); (case hr => first | (go_simp; done) | (go_simp; rfl)); intro gb126 hg w8 hbox hb; have BK126 := Aside0.mk (hbox); have GW126 := Aside0.mk ((by rw [hg]; exact (below_size (bl HB)) : w.heap.size ≤ gb126)); have GE126 := Aside0.mk ((by rw [hg]; exact (below_size (bl HB)) : w.heap.size ≤ gb126)); have NB124_126 := nb BK124 hg; have NB126_124 := bn BK124 hg; have NB125_126 := nb BK125 hg; have NB126_125 := bn BK125 hg; replace HO1_2 := ve HO1_2 hg hb; replace HO1_3 := ve HO1_3 hg hb; replace BK124 := Aside0.mk (blk_below (bo BK124) hb); replace BK125 := Aside0.mk (blk_below (bo BK125) hb); replace HB := Aside0.mk (below_step (bl HB) hb); clear hb hbox hg) | ((with_reducible refine gate_dst (N := 9) rfl ?_); refine box_event ?hg (N := 9) ?hd (cs := #[.bool false, .int .i64 0, .int .i64 0, .int .i64 0]) (t := 32) ?hr ?_; (case hd => rfl); (case hg => rfl); (case hr => first | (go_simp; done) | (go_simp; rfl)); intro gb127 hg w9 hbox hb; have BK127 := Aside0.mk (hbox); have GW127 := Aside0.mk ((by rw [hg]; exact (below_size (bl HB)) : w.heap.size ≤ gb127)); have GE127 := Aside0.mk ((by rw [hg]; exact (below_size (bl HB)) : w.heap.size ≤ gb127)); have NB124_127 := nb BK124 hg; have NB127_124 := bn BK124 hg; have NB125_127 := nb BK125 hg; have NB127_125 := bn BK125 hg; have NB126_127 := nb BK126 hg; have NB127_126 := bn BK126 hg; replace HO1_2 := ve HO1_2 hg hb; replace HO1_3 := ve HO1_3 hg hb; replace BK124 := Aside0.mk (blk_below (bo BK124) hb); replace BK125 := Aside0.mk (blk_below (bo BK125) hb); replace BK126 := Aside0.mk (blk_below (bo BK126) hb); replace HB := Aside0.mk (below_step (bl HB) hb); clear hb hbox hg))
  (try simp only [Act.put, List.setIfInBounds_toArray, List.set_cons_zero, List.set_cons_succ])
  go_cut [27] (fun v27 wc => ∃ (kq : Nat) (x27_4 : Bool), v27 = .bool x27_4 ∧ Aside0 (gcra_Ask.j0 kq a2 a3 x27_4 a0_0 a0_1 a0_2 a0_3 a1_0 a1_1 l1_2 l1_3 = some (r1, r2, r3, r4, r5, r6, r7, r8)) ∧ Aside0 (kq ≤ k) ∧ Aside0 (Kd.V (Kd.int .i64) 3 wc w.heap.size (fun k_ => ((P1_2_ k_ ∨ P1_3_ k_) ∨ w.heap.size ≤ k_) ∧ k_ ≠ gb124 ∧ k_ ≠ gb125 ∧ k_ ≠ gb126 ∧ k_ ≠ gb127) (.slice A1_2 l1_2.length c1_2) l1_2) ∧ Aside0 (Kd.V k57 57 wc w.heap.size (fun k_ => ((P1_2_ k_ ∨ P1_3_ k_) ∨ w.heap.size ≤ k_) ∧ k_ ≠ gb124 ∧ k_ ≠ gb125 ∧ k_ ≠ gb126 ∧ k_ ≠ gb127) (.slice A1_3 l1_3.length c1_3) l1_3) ∧ Aside0 (wc.heap[gb124]? = some (.cells #[.int .i64 a0_0, .int .i64 a0_1, .int .i64 a0_2, .int .i64 a0_3] 23 (0, 0))) ∧ Aside0 (wc.heap[gb125]? = some (.cells #[.int .i64 a1_0, .int .i64 a1_1, (.slice A1_2 l1_2.length c1_2), (.slice A1_3 l1_3.length c1_3)] 27 (0, 0))) ∧ Aside0 (wc.heap[gb126]? = some (.cells #[.int .i64 0, .int .i64 0, (.slice none 0 0), (.slice none 0 0)] 27 (0, 0))) ∧ Aside0 (wc.heap[gb127]? = some (.cells #[.bool false, .int .i64 0, .int .i64 0, .int .i64 0] 32 (0, 0))) ∧ Aside0 (Below w.heap.size w wc))
  case first =>
    have H := HC5.out
    clear HC5
    replace H := Option.bind_eq_some_iff.mp H
    obtain ⟨t128, A100, H⟩ := H
    have A10 := Aside0.mk A100
    clear A100
    by_cases c11 : t128 = true
    · subst c11
      rw [if_pos rfl] at H
      replace H := Option.bind_eq_some_iff.mp H
      obtain ⟨t129, A120, H⟩ := H
      have A12 := Aside0.mk A120
      clear A120
      by_cases c13 : t129 = true
      · subst c13
        rw [if_pos rfl] at H
        replace H := Option.bind_eq_some_iff.mp H
        obtain ⟨t130, A140, H⟩ := H
        have A14 := Aside0.mk A140
        clear A140
        have H' := Aside0.mk H
        clear H
        have hnb15 := NB124_125.out
        have hnc15 := NB125_124.out
        have hnb16 := NB124_126.out
        have hnc16 := NB126_124.out
        have hnb17 := NB124_127.out
        have hnc17 := NB127_124.out
        obtain ⟨hcz18_0, hcz18_1, hcz18_2, hcz18_3⟩ := ce4 BK124
        obtain ⟨hfz18_0, hfz18_1, hfz18_2, hfz18_3⟩ := fr4 BK124
        have hnb19 := NB125_126.out
        have hnc19 := NB126_125.out
        have hnb20 := NB125_127.out
        have hnc20 := NB127_125.out
        obtain ⟨hcz21_0, hcz21_1, hcz21_2, hcz21_3⟩ := ce4 BK125
        obtain ⟨hfz21_0, hfz21_1, hfz21_2, hfz21_3⟩ := fr4 BK125
        go_wp2_with (first | ((with_reducible refine gate_callee (f := 13) rfl ?_); refine goesL_ (some 16) rfl rfl Try.func13 (by kernel_rfl) rfl #[.agg #[.int .i64 a0_0, .int .i64 a0_1, .int .i64 a0_2, .int .i64 a0_3], .agg #[.int .i64 a1_0, .int .i64 a1_1, .slice A1_2 l1_2.length c1_2, .slice A1_3 l1_3.length c1_3]] rfl (by (try simp only [List.map_toArray, List.map_cons, List.map_nil]); first | done | rfl | (simp only [List.length_drop, List.length_take]; rfl)) ?_; (with_reducible refine (gcra_May.calls k a0_0 a0_1 a0_2 a0_3 a1_0 a1_1 _ _ l1_2 _ _ l1_3 true _ ?side1 ?side2 ?side3 ?side4 A10.out).mono ?_); (case side1 => repeat (first | exact (Kd.V_reads' HO1_2.out).2.2 | (with_reducible refine Kd.C_alloc ?_ _) | (with_reducible refine Kd.C_drewN ?_ _) | (with_reducible refine Kd.C_drew ?_))); (case side2 => exact (Kd.V_reads' HO1_2.out).2.1); (case side3 => repeat (first | exact (Kd.V_reads' HO1_3.out).2.2 | (with_reducible refine Kd.C_alloc ?_ _) | (with_reducible refine Kd.C_drewN ?_ _) | (with_reducible refine Kd.C_drew ?_))); (case side4 => exact (Kd.V_reads' HO1_3.out).2.1); rintro e w22 ⟨rfl, hb⟩; refine ⟨_, rfl, ?_⟩; replace HO1_2 := vb HO1_2 hb; replace HO1_3 := vb HO1_3 hb; replace BK124 := Aside0.mk (blk_below (bo BK124) hb); replace BK125 := Aside0.mk (blk_below (bo BK125) hb); replace BK126 := Aside0.mk (blk_below (bo BK126) hb); replace BK127 := Aside0.mk (blk_below (bo BK127) hb); replace HB := Aside0.mk (below_step (bl HB) hb); (try clear hb); (try clear hb2); (try clear hk); (try clear hi)) | (go_at_call 21; (with_reducible refine (gcra_time.calls a2 true _ A12.out).mono ?_); rintro e w' ⟨rfl, ⟨nd, rfl⟩⟩) | (go_at_call 22; (with_reducible refine (policy_Weighs.calls a3 t130 _ A14.out).mono ?_); rintro e w' ⟨rfl, ⟨nd, rfl⟩⟩))
        go_meet
        case rel => exact ⟨_, (!t130), (by first | (with_reducible rfl) | rfl | (simp; done) | (simp [*]; done)), H', ⟨by first | omega | exact Nat.le_refl _⟩, ⟨by (with_reducible repeat (first | apply Kd.V_alloc | apply Kd.V_drewN | apply Kd.V_drew)); exact Kd.V_mono HO1_2.out (fun _ hk => ⟨hk.1.1.1.1, ⟨hk.1.1.1.2, ⟨hk.1.1.2, ⟨hk.1.2, hk.2⟩⟩⟩⟩)⟩, ⟨by (with_reducible repeat (first | apply Kd.V_alloc | apply Kd.V_drewN | apply Kd.V_drew)); exact Kd.V_mono HO1_3.out (fun _ hk => ⟨hk.1.1.1.1, ⟨hk.1.1.1.2, ⟨hk.1.1.2, ⟨hk.1.2, hk.2⟩⟩⟩⟩)⟩, ⟨bo BK124⟩, ⟨bo BK125⟩, ⟨bo BK126⟩, ⟨bo BK127⟩, ⟨bl HB⟩⟩
      · replace c13 := Bool.eq_false_iff.mpr c13
        subst c13
        rw [if_neg (show ¬ (false = true) by decide)] at H
        have H' := Aside0.mk H
        clear H
        have hnb23 := NB124_125.out
        have hnc23 := NB125_124.out
        have hnb24 := NB124_126.out
        have hnc24 := NB126_124.out
        have hnb25 := NB124_127.out
        have hnc25 := NB127_124.out
        obtain ⟨hcz26_0, hcz26_1, hcz26_2, hcz26_3⟩ := ce4 BK124
        obtain ⟨hfz26_0, hfz26_1, hfz26_2, hfz26_3⟩ := fr4 BK124
        have hnb27 := NB125_126.out
        have hnc27 := NB126_125.out
        have hnb28 := NB125_127.out
        have hnc28 := NB127_125.out
        obtain ⟨hcz29_0, hcz29_1, hcz29_2, hcz29_3⟩ := ce4 BK125
        obtain ⟨hfz29_0, hfz29_1, hfz29_2, hfz29_3⟩ := fr4 BK125
        go_wp2_with (first | ((with_reducible refine gate_callee (f := 13) rfl ?_); refine goesL_ (some 16) rfl rfl Try.func13 (by kernel_rfl) rfl #[.agg #[.int .i64 a0_0, .int .i64 a0_1, .int .i64 a0_2, .int .i64 a0_3], .agg #[.int .i64 a1_0, .int .i64 a1_1, .slice A1_2 l1_2.length c1_2, .slice A1_3 l1_3.length c1_3]] rfl (by (try simp only [List.map_toArray, List.map_cons, List.map_nil]); first | done | rfl | (simp only [List.length_drop, List.length_take]; rfl)) ?_; (with_reducible refine (gcra_May.calls k a0_0 a0_1 a0_2 a0_3 a1_0 a1_1 _ _ l1_2 _ _ l1_3 true _ ?side1 ?side2 ?side3 ?side4 A10.out).mono ?_); (case side1 => repeat (first | exact (Kd.V_reads' HO1_2.out).2.2 | (with_reducible refine Kd.C_alloc ?_ _) | (with_reducible refine Kd.C_drewN ?_ _) | (with_reducible refine Kd.C_drew ?_))); (case side2 => exact (Kd.V_reads' HO1_2.out).2.1); (case side3 => repeat (first | exact (Kd.V_reads' HO1_3.out).2.2 | (with_reducible refine Kd.C_alloc ?_ _) | (with_reducible refine Kd.C_drewN ?_ _) | (with_reducible refine Kd.C_drew ?_))); (case side4 => exact (Kd.V_reads' HO1_3.out).2.1); rintro e w30 ⟨rfl, hb⟩; refine ⟨_, rfl, ?_⟩; replace HO1_2 := vb HO1_2 hb; replace HO1_3 := vb HO1_3 hb; replace BK124 := Aside0.mk (blk_below (bo BK124) hb); replace BK125 := Aside0.mk (blk_below (bo BK125) hb); replace BK126 := Aside0.mk (blk_below (bo BK126) hb); replace BK127 := Aside0.mk (blk_below (bo BK127) hb); replace HB := Aside0.mk (below_step (bl HB) hb); (try clear hb); (try clear hb2); (try clear hk); (try clear hi)) | (go_at_call 21; (with_reducible refine (gcra_time.calls a2 false _ A12.out).mono ?_); rintro e w' ⟨rfl, ⟨nd, rfl⟩⟩))
        go_meet
        case rel => exact ⟨_, (true), (by first | (with_reducible rfl) | rfl | (simp; done) | (simp [*]; done)), H', ⟨by first | omega | exact Nat.le_refl _⟩, ⟨by (with_reducible repeat (first | apply Kd.V_alloc | apply Kd.V_drewN | apply Kd.V_drew)); exact Kd.V_mono HO1_2.out (fun _ hk => ⟨hk.1.1.1.1, ⟨hk.1.1.1.2, ⟨hk.1.1.2, ⟨hk.1.2, hk.2⟩⟩⟩⟩)⟩, ⟨by (with_reducible repeat (first | apply Kd.V_alloc | apply Kd.V_drewN | apply Kd.V_drew)); exact Kd.V_mono HO1_3.out (fun _ hk => ⟨hk.1.1.1.1, ⟨hk.1.1.1.2, ⟨hk.1.1.2, ⟨hk.1.2, hk.2⟩⟩⟩⟩)⟩, ⟨bo BK124⟩, ⟨bo BK125⟩, ⟨bo BK126⟩, ⟨bo BK127⟩, ⟨bl HB⟩⟩
    · replace c11 := Bool.eq_false_iff.mpr c11
      subst c11
      rw [if_neg (show ¬ (false = true) by decide)] at H
      have H' := Aside0.mk H
      clear H
      have hnb31 := NB124_125.out
      have hnc31 := NB125_124.out
      have hnb32 := NB124_126.out
      have hnc32 := NB126_124.out
      have hnb33 := NB124_127.out
      have hnc33 := NB127_124.out
      obtain ⟨hcz34_0, hcz34_1, hcz34_2, hcz34_3⟩ := ce4 BK124
      obtain ⟨hfz34_0, hfz34_1, hfz34_2, hfz34_3⟩ := fr4 BK124
      have hnb35 := NB125_126.out
      have hnc35 := NB126_125.out
      have hnb36 := NB125_127.out
      have hnc36 := NB127_125.out
      obtain ⟨hcz37_0, hcz37_1, hcz37_2, hcz37_3⟩ := ce4 BK125
      obtain ⟨hfz37_0, hfz37_1, hfz37_2, hfz37_3⟩ := fr4 BK125
      go_wp2_with (first | ((with_reducible refine gate_callee (f := 13) rfl ?_); refine goesL_ (some 16) rfl rfl Try.func13 (by kernel_rfl) rfl #[.agg #[.int .i64 a0_0, .int .i64 a0_1, .int .i64 a0_2, .int .i64 a0_3], .agg #[.int .i64 a1_0, .int .i64 a1_1, .slice A1_2 l1_2.length c1_2, .slice A1_3 l1_3.length c1_3]] rfl (by (try simp only [List.map_toArray, List.map_cons, List.map_nil]); first | done | rfl | (simp only [List.length_drop, List.length_take]; rfl)) ?_; (with_reducible refine (gcra_May.calls k a0_0 a0_1 a0_2 a0_3 a1_0 a1_1 _ _ l1_2 _ _ l1_3 false _ ?side1 ?side2 ?side3 ?side4 A10.out).mono ?_); (case side1 => repeat (first | exact (Kd.V_reads' HO1_2.out).2.2 | (with_reducible refine Kd.C_alloc ?_ _) | (with_reducible refine Kd.C_drewN ?_ _) | (with_reducible refine Kd.C_drew ?_))); (case side2 => exact (Kd.V_reads' HO1_2.out).2.1); (case side3 => repeat (first | exact (Kd.V_reads' HO1_3.out).2.2 | (with_reducible refine Kd.C_alloc ?_ _) | (with_reducible refine Kd.C_drewN ?_ _) | (with_reducible refine Kd.C_drew ?_))); (case side4 => exact (Kd.V_reads' HO1_3.out).2.1); rintro e w38 ⟨rfl, hb⟩; refine ⟨_, rfl, ?_⟩; replace HO1_2 := vb HO1_2 hb; replace HO1_3 := vb HO1_3 hb; replace BK124 := Aside0.mk (blk_below (bo BK124) hb); replace BK125 := Aside0.mk (blk_below (bo BK125) hb); replace BK126 := Aside0.mk (blk_below (bo BK126) hb); replace BK127 := Aside0.mk (blk_below (bo BK127) hb); replace HB := Aside0.mk (below_step (bl HB) hb); (try clear hb); (try clear hb2); (try clear hk); (try clear hi)))
      go_meet
      case rel => exact ⟨_, (true), (by first | (with_reducible rfl) | rfl | (simp; done) | (simp [*]; done)), H', ⟨by first | omega | exact Nat.le_refl _⟩, ⟨by (with_reducible repeat (first | apply Kd.V_alloc | apply Kd.V_drewN | apply Kd.V_drew)); exact Kd.V_mono HO1_2.out (fun _ hk => ⟨hk.1.1.1.1, ⟨hk.1.1.1.2, ⟨hk.1.1.2, ⟨hk.1.2, hk.2⟩⟩⟩⟩)⟩, ⟨by (with_reducible repeat (first | apply Kd.V_alloc | apply Kd.V_drewN | apply Kd.V_drew)); exact Kd.V_mono HO1_3.out (fun _ hk => ⟨hk.1.1.1.1, ⟨hk.1.1.1.2, ⟨hk.1.1.2, ⟨hk.1.2, hk.2⟩⟩⟩⟩)⟩, ⟨bo BK124⟩, ⟨bo BK125⟩, ⟨bo BK126⟩, ⟨bo BK127⟩, ⟨bl HB⟩⟩
  case rest =>
    clear HC5
    try clear c1
    try clear c2
    try clear p2
    try clear c3
    try clear c10
    try clear c11
    try clear c13
    try clear c15
    try clear c16
    try clear c17
    try clear c19
    try clear c20
    try clear c23
    try clear c24
    try clear c25
    try clear c27
    try clear c28
    try clear c31
    try clear c32
    try clear c33
    try clear c35
    try clear c36
    try clear hcz18_0
    try clear hcz18_1
    try clear hcz18_2
    try clear hcz18_3
    try clear hcz21_0
    try clear hcz21_1
    try clear hcz21_2
    try clear hcz21_3
    try clear hcz26_0
    try clear hcz26_1
    try clear hcz26_2
    try clear hcz26_3
    try clear hcz29_0
    try clear hcz29_1
    try clear hcz29_2
    try clear hcz29_3
    try clear hcz34_0
    try clear hcz34_1
    try clear hcz34_2
    try clear hcz34_3
    try clear hcz37_0
    try clear hcz37_1
    try clear hcz37_2
    try clear hcz37_3
    try clear hfz18_0
    try clear hfz18_1
    try clear hfz18_2
    try clear hfz18_3
    try clear hfz21_0
    try clear hfz21_1
    try clear hfz21_2
    try clear hfz21_3
    try clear hfz26_0
    try clear hfz26_1
    try clear hfz26_2
    try clear hfz26_3
    try clear hfz29_0
    try clear hfz29_1
    try clear hfz29_2
    try clear hfz29_3
    try clear hfz34_0
    try clear hfz34_1
    try clear hfz34_2
    try clear hfz34_3
    try clear hfz37_0
    try clear hfz37_1
    try clear hfz37_2
    try clear hfz37_3
    obtain ⟨kq, x27_4, rfl, HA, HJ4, HO_126002, HO_126003, BK124, BK125, BK126, BK127, HB⟩ := hcut
    cases kq with
    | zero => exact absurd HA.out (by simp [gcra_Ask.j0])
    | succ kj4 =>
      have H := HA.out
      clear HA
      simp only [gcra_Ask.j0] at H
      by_cases c39 : x27_4 = true
      · subst c39
        rw [if_pos rfl] at H
        simp only [Option.some.injEq, Prod.mk.injEq] at H
        obtain ⟨rfl, rfl, rfl, rfl, rfl, rfl, rfl, rfl⟩ := H
        have hnb40 := NB125_124.out
        have hnc40 := NB124_125.out
        have hnb41 := NB125_126.out
        have hnc41 := NB126_125.out
        have hnb42 := NB125_127.out
        have hnc42 := NB127_125.out
        obtain ⟨hcz43_0, hcz43_1, hcz43_2, hcz43_3⟩ := ce4 BK125
        obtain ⟨hfz43_0, hfz43_1, hfz43_2, hfz43_3⟩ := fr4 BK125
        have hnb44 := NB126_124.out
        have hnc44 := NB124_126.out
        have hnb45 := NB126_127.out
        have hnc45 := NB127_126.out
        obtain ⟨hcz46_0, hcz46_1, hcz46_2, hcz46_3⟩ := ce4 BK126
        obtain ⟨hfz46_0, hfz46_1, hfz46_2, hfz46_3⟩ := fr4 BK126
        have hnb47 := NB127_124.out
        have hnc47 := NB124_127.out
        obtain ⟨hcz48_0, hcz48_1, hcz48_2, hcz48_3⟩ := ce4 BK127
        obtain ⟨hfz48_0, hfz48_1, hfz48_2, hfz48_3⟩ := fr4 BK127
        go_wp2
        refine bodyPost_ret (results_cc rfl _ _ gb126 gb127 27 32 #[.int .i64 a1_0, .int .i64 a1_1, .slice A1_2 l1_2.length c1_2, .slice A1_3 l1_3.length c1_3] #[.bool false, .int .i64 0, .int .i64 0, .int .i64 0] (0, 0) (0, 0) _ _ rfl (by (with_reducible repeat (first | refine blk_drewN ?_ _ | refine blk_drew ?_ | refine blk_alloc ?_ _)); refine blk_far ?_ NB126_127.out _; (with_reducible repeat (first | refine blk_drewN ?_ _ | refine blk_drew ?_ | refine blk_alloc ?_ _)); refine blk_far ?_ NB126_127.out _; (with_reducible repeat (first | refine blk_drewN ?_ _ | refine blk_drew ?_ | refine blk_alloc ?_ _)); refine blk_far ?_ NB126_127.out _; (with_reducible repeat (first | refine blk_drewN ?_ _ | refine blk_drew ?_ | refine blk_alloc ?_ _)); refine blk_far ?_ NB126_127.out _; (with_reducible repeat (first | refine blk_drewN ?_ _ | refine blk_drew ?_ | refine blk_alloc ?_ _)); refine blk_put (cs := #[.int .i64 a1_0, .int .i64 a1_1, .slice A1_2 l1_2.length c1_2, .slice none 0 0]) ?_ 3 _ rfl; (with_reducible repeat (first | refine blk_drewN ?_ _ | refine blk_drew ?_ | refine blk_alloc ?_ _)); refine blk_put (cs := #[.int .i64 a1_0, .int .i64 a1_1, .slice none 0 0, .slice none 0 0]) ?_ 2 _ rfl; (with_reducible repeat (first | refine blk_drewN ?_ _ | refine blk_drew ?_ | refine blk_alloc ?_ _)); refine blk_put (cs := #[.int .i64 a1_0, .int .i64 0, .slice none 0 0, .slice none 0 0]) ?_ 1 _ rfl; (with_reducible repeat (first | refine blk_drewN ?_ _ | refine blk_drew ?_ | refine blk_alloc ?_ _)); refine blk_put (cs := #[.int .i64 0, .int .i64 0, .slice none 0 0, .slice none 0 0]) ?_ 0 _ rfl; (with_reducible repeat (first | refine blk_drewN ?_ _ | refine blk_drew ?_ | refine blk_alloc ?_ _)); exact BK126.out) Try.underlying27 rfl (by kernel_rfl) rfl (by (with_reducible repeat (first | refine blk_drewN ?_ _ | refine blk_drew ?_ | refine blk_alloc ?_ _)); refine blk_put (cs := #[.bool false, .int .i64 0, .int .i64 0, .int .i64 0]) ?_ 3 _ rfl; (with_reducible repeat (first | refine blk_drewN ?_ _ | refine blk_drew ?_ | refine blk_alloc ?_ _)); refine blk_put (cs := #[.bool false, .int .i64 0, .int .i64 0, .int .i64 0]) ?_ 2 _ rfl; (with_reducible repeat (first | refine blk_drewN ?_ _ | refine blk_drew ?_ | refine blk_alloc ?_ _)); refine blk_put (cs := #[.bool false, .int .i64 0, .int .i64 0, .int .i64 0]) ?_ 1 _ rfl; (with_reducible repeat (first | refine blk_drewN ?_ _ | refine blk_drew ?_ | refine blk_alloc ?_ _)); refine blk_put (cs := #[.bool false, .int .i64 0, .int .i64 0, .int .i64 0]) ?_ 0 _ rfl; (with_reducible repeat (first | refine blk_drewN ?_ _ | refine blk_drew ?_ | refine blk_alloc ?_ _)); refine blk_far ?_ NB127_126.out _; (with_reducible repeat (first | refine blk_drewN ?_ _ | refine blk_drew ?_ | refine blk_alloc ?_ _)); refine blk_far ?_ NB127_126.out _; (with_reducible repeat (first | refine blk_drewN ?_ _ | refine blk_drew ?_ | refine blk_alloc ?_ _)); refine blk_far ?_ NB127_126.out _; (with_reducible repeat (first | refine blk_drewN ?_ _ | refine blk_drew ?_ | refine blk_alloc ?_ _)); refine blk_far ?_ NB127_126.out _; (with_reducible repeat (first | refine blk_drewN ?_ _ | refine blk_drew ?_ | refine blk_alloc ?_ _)); exact BK127.out) Try.underlying32 rfl (by kernel_rfl)) rfl ?_
        exact ⟨_, _, by first | (with_reducible rfl) | rfl | (simp [errW_none, errW_some] <;> rfl) | (simp [*, errW_none, errW_some] <;> rfl), by (with_reducible repeat (first | apply Kd.V_alloc | apply Kd.V_drewN | apply Kd.V_drew)); exact Kd.V_mono (Kd.V_far (p := ⟨gb127, 3, none⟩) (Kd.V_far (p := ⟨gb127, 2, none⟩) (Kd.V_far (p := ⟨gb127, 1, none⟩) (Kd.V_far (p := ⟨gb127, 0, none⟩) (Kd.V_far (p := ⟨gb126, 3, none⟩) (Kd.V_far (p := ⟨gb126, 2, none⟩) (Kd.V_far (p := ⟨gb126, 1, none⟩) (Kd.V_far (p := ⟨gb126, 0, none⟩) (Kd.V_mono (Kd.V_mono HO_126002.out (fun k_ hk => (⟨hk, hk.2.2.2.1⟩ : _ ∧ k_ ≠ gb126))) (fun k_ hk => (⟨hk, hk.1.2.2.2.2⟩ : _ ∧ k_ ≠ gb127))) (fun _ hk => hk.1.2) (.int .i64 a1_0)) (fun _ hk => hk.1.2) (.int .i64 a1_1)) (fun _ hk => hk.1.2) (.slice A1_2 l1_2.length c1_2)) (fun _ hk => hk.1.2) (.slice A1_3 l1_3.length c1_3)) (fun _ hk => hk.2) (.bool false)) (fun _ hk => hk.2) (.int .i64 0)) (fun _ hk => hk.2) (.int .i64 0)) (fun _ hk => hk.2) (.int .i64 0)) (fun _ hk => hk.1.1.1), by (with_reducible repeat (first | apply Kd.V_alloc | apply Kd.V_drewN | apply Kd.V_drew)); exact Kd.V_mono (Kd.V_far (p := ⟨gb127, 3, none⟩) (Kd.V_far (p := ⟨gb127, 2, none⟩) (Kd.V_far (p := ⟨gb127, 1, none⟩) (Kd.V_far (p := ⟨gb127, 0, none⟩) (Kd.V_far (p := ⟨gb126, 3, none⟩) (Kd.V_far (p := ⟨gb126, 2, none⟩) (Kd.V_far (p := ⟨gb126, 1, none⟩) (Kd.V_far (p := ⟨gb126, 0, none⟩) (Kd.V_mono (Kd.V_mono HO_126003.out (fun k_ hk => (⟨hk, hk.2.2.2.1⟩ : _ ∧ k_ ≠ gb126))) (fun k_ hk => (⟨hk, hk.1.2.2.2.2⟩ : _ ∧ k_ ≠ gb127))) (fun _ hk => hk.1.2) (.int .i64 a1_0)) (fun _ hk => hk.1.2) (.int .i64 a1_1)) (fun _ hk => hk.1.2) (.slice A1_2 l1_2.length c1_2)) (fun _ hk => hk.1.2) (.slice A1_3 l1_3.length c1_3)) (fun _ hk => hk.2) (.bool false)) (fun _ hk => hk.2) (.int .i64 0)) (fun _ hk => hk.2) (.int .i64 0)) (fun _ hk => hk.2) (.int .i64 0)) (fun _ hk => hk.1.1.1), bl HB⟩
      · replace c39 := Bool.eq_false_iff.mpr c39
        subst c39
        rw [if_neg (show ¬ (false = true) by decide)] at H
        obtain ⟨ji49, hji49⟩ : ∃ j_ : Int, (mx a2 a1_0) = j_ := ⟨_, rfl⟩
        replace H : ((gcra_level.f kj4 a0_0 a0_1 a0_2 a0_3 a1_0 a1_1 l1_2 l1_3 (ji49)).bind fun t131 => ((gcra_of.f kj4 a0_0 a0_1 a0_2 a0_3 a0_1).bind fun t132 => ((gcra_of.f kj4 a0_0 a0_1 a0_2 a0_3 a3).bind fun t133 => (if (IntKind.u64.wrap (t131 + t133)) ≤ t132 then (gcra_Ask.j1 kj4 ji49 (IntKind.u64.wrap (t131 + t133)) t132 a0_0 a0_1 a0_2 a0_3 true 0 0 0) else (if a3 > a0_1 then (gcra_Ask.j1 kj4 ji49 t131 t132 a0_0 a0_1 a0_2 a0_3 false 0 2199023255552 0) else ((gcra_parts_above.f (IntKind.u64.wrap (t131 + t133)) t132).bind fun t135 => ((gcra_parts_ticks.f t135 a0_0 a0_1 a0_2 a0_3).bind fun t136 => (gcra_Ask.j1 kj4 ji49 t131 t132 a0_0 a0_1 a0_2 a0_3 false 0 t136 0)))))))) = some (r1, r2, r3, r4, r5, r6, r7, r8) := by first | (rw [hji49] at H; exact H) | (simp only [hji49] at H ⊢; exact H)
        have hji49_ : (if a2 < a1_0 then a1_0 else a2) = ji49 := hji49
        replace H := Option.bind_eq_some_iff.mp H
        obtain ⟨t131, A500, H⟩ := H
        have A50 := Aside0.mk A500
        clear A500
        replace H := Option.bind_eq_some_iff.mp H
        obtain ⟨t132, A510, H⟩ := H
        have A51 := Aside0.mk A510
        clear A510
        replace H := Option.bind_eq_some_iff.mp H
        obtain ⟨t133, A520, H⟩ := H
        have A52 := Aside0.mk A520
        clear A520
        have HC53 := Aside0.mk H
        clear H
        have hnb54 := NB125_124.out
        have hnc54 := NB124_125.out
        have hnb55 := NB125_126.out
        have hnc55 := NB126_125.out
        have hnb56 := NB125_127.out
        have hnc56 := NB127_125.out
        obtain ⟨hcz57_0, hcz57_1, hcz57_2, hcz57_3⟩ := ce4 BK125
        obtain ⟨hfz57_0, hfz57_1, hfz57_2, hfz57_3⟩ := fr4 BK125
        try go_wp2
        replace HO_126002 := Aside0.mk (Kd.V_drew HO_126002.out)
        replace HO_126003 := Aside0.mk (Kd.V_drew HO_126003.out)
        replace BK124 := Aside0.mk (blk_drew BK124.out)
        replace BK125 := Aside0.mk (blk_drew BK125.out)
        replace BK126 := Aside0.mk (blk_drew BK126.out)
        replace BK127 := Aside0.mk (blk_drew BK127.out)
        replace HB := Aside0.mk (below_drew1 HB.out)
        refine start_ (n := 10) (S := fun w' => w'.cell? ⟨gb124, 0, none⟩ = some (.int .i64 a0_0) ∧ w'.cell? ⟨gb124, 1, none⟩ = some (.int .i64 a0_1) ∧ w'.cell? ⟨gb124, 2, none⟩ = some (.int .i64 a0_2) ∧ w'.cell? ⟨gb124, 3, none⟩ = some (.int .i64 a0_3) ∧ w'.cell? ⟨gb125, 0, none⟩ = some (.int .i64 a1_0) ∧ w'.cell? ⟨gb125, 1, none⟩ = some (.int .i64 a1_1) ∧ w'.cell? ⟨gb125, 2, none⟩ = some (.slice A1_2 l1_2.length c1_2) ∧ w'.cell? ⟨gb125, 3, none⟩ = some (.slice A1_3 l1_3.length c1_3)) (ds := []) #[false, false, false, false, false, false, false, false, false, false] (by kernel_rfl) rfl rfl ⟨(blk_cell BK124.out 0).trans rfl, (blk_cell BK124.out 1).trans rfl, (blk_cell BK124.out 2).trans rfl, (blk_cell BK124.out 3).trans rfl, (blk_cell BK125.out 0).trans rfl, (blk_cell BK125.out 1).trans rfl, (blk_cell BK125.out 2).trans rfl, (blk_cell BK125.out 3).trans rfl⟩ (fun hHeld => ?_); refine with_tabW gcra_Ask.tab4 gcra_Ask.bits4 (fun HT_ HW_ => ?_)
        generalize wc.drew = w58 at HO_126002 HO_126003 BK124 BK125 BK126 BK127 HB hHeld ⊢
        refine pureA 2 36 HT_ ?_
        refine pureA 5 39 HT_ ?_
        refine takeA 0 34 HT_ HW_ hHeld ?_
        refine takeA 1 35 HT_ HW_ hHeld ?_
        refine takeA 4 38 HT_ HW_ hHeld ?_
        refine takeA 6 40 HT_ HW_ hHeld ?_
        refine one_ (i := 3) (N := some 37) #[true, true, true, true, true, true, true, false, false, false] rfl rfl (one_of HT_.out (by kernel_rfl)) (by decide) (fun K hK => ?_)
        refine goes_ Try.func23 (by kernel_rfl) rfl #[.agg #[.int .i64 a0_0, .int .i64 a0_1, .int .i64 a0_2, .int .i64 a0_3], .agg #[.int .i64 a1_0, .int .i64 a1_1, .slice A1_2 l1_2.length c1_2, .slice A1_3 l1_3.length c1_3], .int .i64 ji49] (by rfl) rfl rfl (by (try simp only [List.map_toArray, List.map_cons, List.map_nil]); first | done | (simp only [hji49]; rfl) | rfl | (simp only [List.length_drop, List.length_take]; rfl)) ?_
        with_reducible refine (gcra_level.calls kj4 a0_0 a0_1 a0_2 a0_3 a1_0 a1_1 _ _ l1_2 _ _ l1_3 ji49 t131 _ ?side1 ?side2 ?side3 ?side4 A50.out).mono ?_
        (case side1 => repeat (first | exact (Kd.V_reads' HO_126002.out).2.2 | (with_reducible refine Kd.C_alloc ?_ _) | (with_reducible refine Kd.C_drewN ?_ _) | (with_reducible refine Kd.C_drew ?_)))
        (case side2 => exact (Kd.V_reads' HO_126002.out).2.1)
        (case side3 => repeat (first | exact (Kd.V_reads' HO_126003.out).2.2 | (with_reducible refine Kd.C_alloc ?_ _) | (with_reducible refine Kd.C_drewN ?_ _) | (with_reducible refine Kd.C_drew ?_)))
        (case side4 => exact (Kd.V_reads' HO_126003.out).2.1)
        rintro e w59 ⟨rfl, hb⟩
        refine ⟨_, rfl, ?_⟩
        replace HO_126002 := vb HO_126002 hb
        replace HO_126003 := vb HO_126003 hb
        replace BK124 := Aside0.mk (blk_below (bo BK124) hb)
        replace BK125 := Aside0.mk (blk_below (bo BK125) hb)
        replace BK126 := Aside0.mk (blk_below (bo BK126) hb)
        replace BK127 := Aside0.mk (blk_below (bo BK127) hb)
        replace HB := Aside0.mk (below_step (bl HB) hb)
        (try clear hb)
        (try clear hb2)
        (try clear hk)
        (try clear hi)
        refine hK.out _ _ ⟨(blk_cell BK124.out 0).trans rfl, (blk_cell BK124.out 1).trans rfl, (blk_cell BK124.out 2).trans rfl, (blk_cell BK124.out 3).trans rfl, (blk_cell BK125.out 0).trans rfl, (blk_cell BK125.out 1).trans rfl, (blk_cell BK125.out 2).trans rfl, (blk_cell BK125.out 3).trans rfl⟩ (fun hHeld => ?_)
        clear hK K
        refine norm_ (a' := ?_) ?_ ?_
        rotate_left
        · show Act.put _ (some 37) _ = _
          simp only [Act.put, List.setIfInBounds_toArray, List.set_cons_zero, List.set_cons_succ, i64_w, i32_w]
          rfl
        refine one_ (i := 7) (N := some 41) #[true, true, true, true, true, true, true, true, false, false] rfl rfl (one_of HT_.out (by kernel_rfl)) (by decide) (fun K hK => ?_)
        refine goes_ Try.func24 (by kernel_rfl) rfl #[.agg #[.int .i64 a0_0, .int .i64 a0_1, .int .i64 a0_2, .int .i64 a0_3], .int .i64 a0_1] (by rfl) rfl rfl (by (try simp only [List.map_toArray, List.map_cons, List.map_nil]); first | done | rfl | (simp only [List.length_drop, List.length_take]; rfl)) ?_
        with_reducible refine (gcra_of.calls kj4 a0_0 a0_1 a0_2 a0_3 a0_1 t132 _ A51.out).mono ?_
        rintro e w60 ⟨rfl, hb⟩
        refine ⟨_, rfl, ?_⟩
        replace HO_126002 := vb HO_126002 hb
        replace HO_126003 := vb HO_126003 hb
        replace BK124 := Aside0.mk (blk_below (bo BK124) hb)
        replace BK125 := Aside0.mk (blk_below (bo BK125) hb)
        replace BK126 := Aside0.mk (blk_below (bo BK126) hb)
        replace BK127 := Aside0.mk (blk_below (bo BK127) hb)
        replace HB := Aside0.mk (below_step (bl HB) hb)
        (try clear hb)
        (try clear hb2)
        (try clear hk)
        (try clear hi)
        refine hK.out _ _ ⟨(blk_cell BK124.out 0).trans rfl, (blk_cell BK124.out 1).trans rfl, (blk_cell BK124.out 2).trans rfl, (blk_cell BK124.out 3).trans rfl, (blk_cell BK125.out 0).trans rfl, (blk_cell BK125.out 1).trans rfl, (blk_cell BK125.out 2).trans rfl, (blk_cell BK125.out 3).trans rfl⟩ (fun hHeld => ?_)
        clear hK K
        refine norm_ (a' := ?_) ?_ ?_
        rotate_left
        · show Act.put _ (some 41) _ = _
          simp only [Act.put, List.setIfInBounds_toArray, List.set_cons_zero, List.set_cons_succ, i64_w, i32_w]
          rfl
        refine pureA 8 10 HT_ ?_
        refine pureA 9 11 HT_ ?_
        refine done_ (done_of HT_.out (by kernel_rfl)) ?_
        have hnb61 := NB124_126.out
        have hnc61 := NB126_124.out
        have hnb62 := NB124_127.out
        have hnc62 := NB127_124.out
        obtain ⟨hcz63_0, hcz63_1, hcz63_2, hcz63_3⟩ := ce4 BK124
        obtain ⟨hfz63_0, hfz63_1, hfz63_2, hfz63_3⟩ := fr4 BK124
        go_upto_block 0 with (first | ((with_reducible refine gate_callee (f := 24) rfl ?_); refine goesL_ (some 45) rfl rfl Try.func24 (by kernel_rfl) rfl #[.agg #[.int .i64 a0_0, .int .i64 a0_1, .int .i64 a0_2, .int .i64 a0_3], .int .i64 a3] rfl (by (try simp only [List.map_toArray, List.map_cons, List.map_nil]); first | done | rfl | (simp only [List.length_drop, List.length_take]; rfl)) ?_; (with_reducible refine (gcra_of.calls kj4 a0_0 a0_1 a0_2 a0_3 a3 t133 _ A52.out).mono ?_); rintro e w64 ⟨rfl, hb⟩; refine ⟨_, rfl, ?_⟩; replace HO_126002 := vb HO_126002 hb; replace HO_126003 := vb HO_126003 hb; replace BK124 := Aside0.mk (blk_below (bo BK124) hb); replace BK125 := Aside0.mk (blk_below (bo BK125) hb); replace BK126 := Aside0.mk (blk_below (bo BK126) hb); replace BK127 := Aside0.mk (blk_below (bo BK127) hb); replace HB := Aside0.mk (below_step (bl HB) hb); (try clear hb); (try clear hb2); (try clear hk); (try clear hi)) | ((with_reducible refine gate_dst (N := 13) rfl ?_); refine box_event ?hg (N := 13) ?hd (cs := #[.bool false, .int .i64 0, .int .i64 0, .int .i64 0]) (t := 32) ?hr ?_; (case hd => rfl); (case hg => rfl); (case hr => first | (go_simp; done) | (go_simp; rfl)); intro gb134 hg w65 hbox hb; have BK134 := Aside0.mk (hbox); have GW134 := Aside0.mk ((by rw [hg]; exact (below_size (bl HB)) : w.heap.size ≤ gb134)); have GE134 := Aside0.mk ((by rw [hg]; exact (below_size (bl HB)) : w.heap.size ≤ gb134)); have NB124_134 := nb BK124 hg; have NB134_124 := bn BK124 hg; have NB125_134 := nb BK125 hg; have NB134_125 := bn BK125 hg; have NB126_134 := nb BK126 hg; have NB134_126 := bn BK126 hg; have NB127_134 := nb BK127 hg; have NB134_127 := bn BK127 hg; replace HO_126002 := ve HO_126002 hg hb; replace HO_126003 := ve HO_126003 hg hb; replace BK124 := Aside0.mk (blk_below (bo BK124) hb); replace BK125 := Aside0.mk (blk_below (bo BK125) hb); replace BK126 := Aside0.mk (blk_below (bo BK126) hb); replace BK127 := Aside0.mk (blk_below (bo BK127) hb); replace HB := Aside0.mk (below_step (bl HB) hb); clear hb hbox hg))
        (try simp only [Act.put, List.setIfInBounds_toArray, List.set_cons_zero, List.set_cons_succ])
        go_cut [10] (fun v10 wc => ∃ (kq : Nat) (x10_52 : Int) (x135000_52 : Bool) (x135002_52 : Int), v10 = .int .u64 x10_52 ∧ Aside0 (gcra_Ask.j1 kq ji49 x10_52 t132 a0_0 a0_1 a0_2 a0_3 x135000_52 0 x135002_52 0 = some (r1, r2, r3, r4, r5, r6, r7, r8)) ∧ Aside0 (kq ≤ kj4) ∧ Aside0 (Kd.V (Kd.int .i64) 3 wc w.heap.size (fun k_ => ((P1_2_ k_ ∨ P1_3_ k_) ∨ w.heap.size ≤ k_) ∧ k_ ≠ gb124 ∧ k_ ≠ gb125 ∧ k_ ≠ gb126 ∧ k_ ≠ gb127 ∧ k_ ≠ gb134) (.slice A1_2 l1_2.length c1_2) l1_2) ∧ Aside0 (Kd.V k57 57 wc w.heap.size (fun k_ => ((P1_2_ k_ ∨ P1_3_ k_) ∨ w.heap.size ≤ k_) ∧ k_ ≠ gb124 ∧ k_ ≠ gb125 ∧ k_ ≠ gb126 ∧ k_ ≠ gb127 ∧ k_ ≠ gb134) (.slice A1_3 l1_3.length c1_3) l1_3) ∧ Aside0 (wc.heap[gb124]? = some (.cells #[.int .i64 a0_0, .int .i64 a0_1, .int .i64 a0_2, .int .i64 a0_3] 23 (0, 0))) ∧ Aside0 (wc.heap[gb125]? = some (.cells #[.int .i64 a1_0, .int .i64 a1_1, (.slice A1_2 l1_2.length c1_2), (.slice A1_3 l1_3.length c1_3)] 27 (0, 0))) ∧ Aside0 (wc.heap[gb126]? = some (.cells #[.int .i64 0, .int .i64 0, (.slice none 0 0), (.slice none 0 0)] 27 (0, 0))) ∧ Aside0 (wc.heap[gb127]? = some (.cells #[.bool false, .int .i64 0, .int .i64 0, .int .i64 0] 32 (0, 0))) ∧ Aside0 (wc.heap[gb134]? = some (.cells #[.bool x135000_52, .int .i64 0, .int .i64 x135002_52, .int .i64 0] 32 (0, 0))) ∧ Aside0 (Below w.heap.size w wc))
        case first =>
          have H := HC53.out
          clear HC53
          by_cases c66 : (IntKind.u64.wrap (t131 + t133)) ≤ t132
          · rw [if_pos c66] at H
            have c66b0 : decide ((IntKind.u64.wrap (t131 + t133)) ≤ t132) = true := decide_eq_true c66
            clear c66
            (first | rw [c66b0] | (simp only [i64_w, i32_w]; rw [c66b0]) | skip)
            have H' := Aside0.mk H
            clear H
            have hnb67 := NB134_124.out
            have hnc67 := NB124_134.out
            have hnb68 := NB134_125.out
            have hnc68 := NB125_134.out
            have hnb69 := NB134_126.out
            have hnc69 := NB126_134.out
            have hnb70 := NB134_127.out
            have hnc70 := NB127_134.out
            obtain ⟨hcz71_0, hcz71_1, hcz71_2, hcz71_3⟩ := ce4 BK134
            obtain ⟨hfz71_0, hfz71_1, hfz71_2, hfz71_3⟩ := fr4 BK134
            go_wp2
            go_meet
            case rel => exact ⟨_, (IntKind.u64.wrap (t131 + t133)), (true), (0), (by first | (with_reducible rfl) | rfl | (simp; done) | (simp [*]; done)), H', ⟨by have := HJ4.out; first | omega | exact Nat.le_refl _⟩, ⟨by (with_reducible repeat (first | apply Kd.V_alloc | apply Kd.V_drewN | apply Kd.V_drew)); exact Kd.V_mono (Kd.V_far (p := ⟨gb134, 0, none⟩) (Kd.V_mono HO_126002.out (fun k_ hk => (⟨hk, hk.2⟩ : _ ∧ k_ ≠ gb134))) (fun _ hk => hk.2) (.bool true)) (fun _ hk => ⟨hk.1.1.1, ⟨hk.1.1.2.1, ⟨hk.1.1.2.2.1, ⟨hk.1.1.2.2.2.1, ⟨hk.1.1.2.2.2.2, hk.1.2⟩⟩⟩⟩⟩)⟩, ⟨by (with_reducible repeat (first | apply Kd.V_alloc | apply Kd.V_drewN | apply Kd.V_drew)); exact Kd.V_mono (Kd.V_far (p := ⟨gb134, 0, none⟩) (Kd.V_mono HO_126003.out (fun k_ hk => (⟨hk, hk.2⟩ : _ ∧ k_ ≠ gb134))) (fun _ hk => hk.2) (.bool true)) (fun _ hk => ⟨hk.1.1.1, ⟨hk.1.1.2.1, ⟨hk.1.1.2.2.1, ⟨hk.1.1.2.2.2.1, ⟨hk.1.1.2.2.2.2, hk.1.2⟩⟩⟩⟩⟩)⟩, ⟨by (with_reducible repeat (first | refine blk_drewN ?_ _ | refine blk_drew ?_ | refine blk_alloc ?_ _)); refine blk_far ?_ NB124_134.out _; (with_reducible repeat (first | refine blk_drewN ?_ _ | refine blk_drew ?_ | refine blk_alloc ?_ _)); exact BK124.out⟩, ⟨by (with_reducible repeat (first | refine blk_drewN ?_ _ | refine blk_drew ?_ | refine blk_alloc ?_ _)); refine blk_far ?_ NB125_134.out _; (with_reducible repeat (first | refine blk_drewN ?_ _ | refine blk_drew ?_ | refine blk_alloc ?_ _)); exact BK125.out⟩, ⟨by (with_reducible repeat (first | refine blk_drewN ?_ _ | refine blk_drew ?_ | refine blk_alloc ?_ _)); refine blk_far ?_ NB126_134.out _; (with_reducible repeat (first | refine blk_drewN ?_ _ | refine blk_drew ?_ | refine blk_alloc ?_ _)); exact BK126.out⟩, ⟨by (with_reducible repeat (first | refine blk_drewN ?_ _ | refine blk_drew ?_ | refine blk_alloc ?_ _)); refine blk_far ?_ NB127_134.out _; (with_reducible repeat (first | refine blk_drewN ?_ _ | refine blk_drew ?_ | refine blk_alloc ?_ _)); exact BK127.out⟩, ⟨by (with_reducible repeat (first | refine blk_drewN ?_ _ | refine blk_drew ?_ | refine blk_alloc ?_ _)); refine blk_put (cs := #[.bool false, .int .i64 0, .int .i64 0, .int .i64 0]) ?_ 0 _ rfl; (with_reducible repeat (first | refine blk_drewN ?_ _ | refine blk_drew ?_ | refine blk_alloc ?_ _)); exact BK134.out⟩, ⟨bl HB⟩⟩
          · rw [if_neg c66] at H
            have c66b0 : decide ((IntKind.u64.wrap (t131 + t133)) ≤ t132) = false := decide_eq_false c66
            clear c66
            (first | rw [c66b0] | (simp only [i64_w, i32_w]; rw [c66b0]) | skip)
            by_cases c72 : a3 > a0_1
            · rw [if_pos c72] at H
              have c72b0 : decide (a0_1 < a3) = true := decide_eq_true c72
              clear c72
              have H' := Aside0.mk H
              clear H
              have hnb73 := NB124_125.out
              have hnc73 := NB125_124.out
              have hnb74 := NB124_126.out
              have hnc74 := NB126_124.out
              have hnb75 := NB124_127.out
              have hnc75 := NB127_124.out
              have hnb76 := NB124_134.out
              have hnc76 := NB134_124.out
              obtain ⟨hcz77_0, hcz77_1, hcz77_2, hcz77_3⟩ := ce4 BK124
              obtain ⟨hfz77_0, hfz77_1, hfz77_2, hfz77_3⟩ := fr4 BK124
              have hnb78 := NB134_125.out
              have hnc78 := NB125_134.out
              have hnb79 := NB134_126.out
              have hnc79 := NB126_134.out
              have hnb80 := NB134_127.out
              have hnc80 := NB127_134.out
              obtain ⟨hcz81_0, hcz81_1, hcz81_2, hcz81_3⟩ := ce4 BK134
              obtain ⟨hfz81_0, hfz81_1, hfz81_2, hfz81_3⟩ := fr4 BK134
              go_wp2
              go_meet
              case rel => exact ⟨_, (t131), (false), (2199023255552), (by first | (with_reducible rfl) | rfl | (simp; done) | (simp [*]; done)), H', ⟨by have := HJ4.out; first | omega | exact Nat.le_refl _⟩, ⟨by (with_reducible repeat (first | apply Kd.V_alloc | apply Kd.V_drewN | apply Kd.V_drew)); exact Kd.V_mono (Kd.V_far (p := ⟨gb134, 2, none⟩) (Kd.V_mono HO_126002.out (fun k_ hk => (⟨hk, hk.2⟩ : _ ∧ k_ ≠ gb134))) (fun _ hk => hk.2) (.int .i64 2199023255552)) (fun _ hk => ⟨hk.1.1.1, ⟨hk.1.1.2.1, ⟨hk.1.1.2.2.1, ⟨hk.1.1.2.2.2.1, ⟨hk.1.1.2.2.2.2, hk.1.2⟩⟩⟩⟩⟩)⟩, ⟨by (with_reducible repeat (first | apply Kd.V_alloc | apply Kd.V_drewN | apply Kd.V_drew)); exact Kd.V_mono (Kd.V_far (p := ⟨gb134, 2, none⟩) (Kd.V_mono HO_126003.out (fun k_ hk => (⟨hk, hk.2⟩ : _ ∧ k_ ≠ gb134))) (fun _ hk => hk.2) (.int .i64 2199023255552)) (fun _ hk => ⟨hk.1.1.1, ⟨hk.1.1.2.1, ⟨hk.1.1.2.2.1, ⟨hk.1.1.2.2.2.1, ⟨hk.1.1.2.2.2.2, hk.1.2⟩⟩⟩⟩⟩)⟩, ⟨by (with_reducible repeat (first | refine blk_drewN ?_ _ | refine blk_drew ?_ | refine blk_alloc ?_ _)); refine blk_far ?_ NB124_134.out _; (with_reducible repeat (first | refine blk_drewN ?_ _ | refine blk_drew ?_ | refine blk_alloc ?_ _)); exact BK124.out⟩, ⟨by (with_reducible repeat (first | refine blk_drewN ?_ _ | refine blk_drew ?_ | refine blk_alloc ?_ _)); refine blk_far ?_ NB125_134.out _; (with_reducible repeat (first | refine blk_drewN ?_ _ | refine blk_drew ?_ | refine blk_alloc ?_ _)); exact BK125.out⟩, ⟨by (with_reducible repeat (first | refine blk_drewN ?_ _ | refine blk_drew ?_ | refine blk_alloc ?_ _)); refine blk_far ?_ NB126_134.out _; (with_reducible repeat (first | refine blk_drewN ?_ _ | refine blk_drew ?_ | refine blk_alloc ?_ _)); exact BK126.out⟩, ⟨by (with_reducible repeat (first | refine blk_drewN ?_ _ | refine blk_drew ?_ | refine blk_alloc ?_ _)); refine blk_far ?_ NB127_134.out _; (with_reducible repeat (first | refine blk_drewN ?_ _ | refine blk_drew ?_ | refine blk_alloc ?_ _)); exact BK127.out⟩, ⟨by (with_reducible repeat (first | refine blk_drewN ?_ _ | refine blk_drew ?_ | refine blk_alloc ?_ _)); refine blk_put (cs := #[.bool false, .int .i64 0, .int .i64 0, .int .i64 0]) ?_ 2 _ rfl; (with_reducible repeat (first | refine blk_drewN ?_ _ | refine blk_drew ?_ | refine blk_alloc ?_ _)); exact BK134.out⟩, ⟨bl HB⟩⟩
            · rw [if_neg c72] at H
              have c72b0 : decide (a0_1 < a3) = false := decide_eq_false c72
              clear c72
              replace H := Option.bind_eq_some_iff.mp H
              obtain ⟨t135, A820, H⟩ := H
              have A82 := Aside0.mk A820
              clear A820
              replace H := Option.bind_eq_some_iff.mp H
              obtain ⟨t136, A830, H⟩ := H
              have A83 := Aside0.mk A830
              clear A830
              have H' := Aside0.mk H
              clear H
              have hnb84 := NB124_125.out
              have hnc84 := NB125_124.out
              have hnb85 := NB124_126.out
              have hnc85 := NB126_124.out
              have hnb86 := NB124_127.out
              have hnc86 := NB127_124.out
              have hnb87 := NB124_134.out
              have hnc87 := NB134_124.out
              obtain ⟨hcz88_0, hcz88_1, hcz88_2, hcz88_3⟩ := ce4 BK124
              obtain ⟨hfz88_0, hfz88_1, hfz88_2, hfz88_3⟩ := fr4 BK124
              try go_wp2
              replace HO_126002 := Aside0.mk (Kd.V_drew HO_126002.out)
              replace HO_126003 := Aside0.mk (Kd.V_drew HO_126003.out)
              replace BK124 := Aside0.mk (blk_drew BK124.out)
              replace BK125 := Aside0.mk (blk_drew BK125.out)
              replace BK126 := Aside0.mk (blk_drew BK126.out)
              replace BK127 := Aside0.mk (blk_drew BK127.out)
              replace BK134 := Aside0.mk (blk_drew BK134.out)
              replace HB := Aside0.mk (below_drew1 HB.out)
              refine start_ (n := 7) (S := fun w' => w'.cell? ⟨gb124, 0, none⟩ = some (.int .i64 a0_0) ∧ w'.cell? ⟨gb124, 1, none⟩ = some (.int .i64 a0_1) ∧ w'.cell? ⟨gb124, 2, none⟩ = some (.int .i64 a0_2) ∧ w'.cell? ⟨gb124, 3, none⟩ = some (.int .i64 a0_3)) (ds := []) #[false, false, false, false, false, false, false] (by kernel_rfl) rfl rfl ⟨(blk_cell BK124.out 0).trans rfl, (blk_cell BK124.out 1).trans rfl, (blk_cell BK124.out 2).trans rfl, (blk_cell BK124.out 3).trans rfl⟩ (fun hHeld => ?_)
              generalize w65.drew = w89 at HO_126002 HO_126003 BK124 BK125 BK126 BK127 BK134 HB hHeld ⊢
              refine pureB 0 47 ?_
              refine pureB 1 48 ?_
              refine takeB' 3 50 hHeld ?_
              refine one_ (i := 2) (N := some 49) #[true, true, true, true, false, false, false] rfl rfl (by kernel_rfl) (by decide) (fun K hK => ?_)
              refine goes_ Try.func25 (by kernel_rfl) rfl #[.int .u64 (IntKind.u64.wrap (t131 + t133)), .int .u64 t132] (by rfl) rfl rfl (by (try simp only [List.map_toArray, List.map_cons, List.map_nil]); first | done | rfl | (simp only [List.length_drop, List.length_take]; rfl)) ?_
              with_reducible refine (gcra_parts_above.calls (IntKind.u64.wrap (t131 + t133)) t132 t135 _ A82.out).mono ?_
              rintro e w90 ⟨rfl, hb⟩
              refine ⟨_, rfl, ?_⟩
              replace HO_126002 := vb HO_126002 hb
              replace HO_126003 := vb HO_126003 hb
              replace BK124 := Aside0.mk (blk_below (bo BK124) hb)
              replace BK125 := Aside0.mk (blk_below (bo BK125) hb)
              replace BK126 := Aside0.mk (blk_below (bo BK126) hb)
              replace BK127 := Aside0.mk (blk_below (bo BK127) hb)
              replace BK134 := Aside0.mk (blk_below (bo BK134) hb)
              replace HB := Aside0.mk (below_step (bl HB) hb)
              (try clear hb)
              (try clear hb2)
              (try clear hk)
              (try clear hi)
              refine hK.out _ _ ⟨(blk_cell BK124.out 0).trans rfl, (blk_cell BK124.out 1).trans rfl, (blk_cell BK124.out 2).trans rfl, (blk_cell BK124.out 3).trans rfl⟩ (fun hHeld => ?_)
              clear hK K
              refine norm_ (a' := ?_) ?_ ?_
              rotate_left
              · show Act.put _ (some 49) _ = _
                simp only [Act.put, List.setIfInBounds_toArray, List.set_cons_zero, List.set_cons_succ, i64_w, i32_w]
                rfl
              refine one_ (i := 4) (N := some 51) #[true, true, true, true, true, false, false] rfl rfl (by kernel_rfl) (by decide) (fun K hK => ?_)
              refine goes_ Try.func26 (by kernel_rfl) rfl #[.int .u64 t135, .agg #[.int .i64 a0_0, .int .i64 a0_1, .int .i64 a0_2, .int .i64 a0_3]] (by rfl) rfl rfl (by (try simp only [List.map_toArray, List.map_cons, List.map_nil]); first | done | rfl | (simp only [List.length_drop, List.length_take]; rfl)) ?_
              with_reducible refine (gcra_parts_ticks.calls t135 a0_0 a0_1 a0_2 a0_3 t136 _ A83.out).mono ?_
              rintro e w91 ⟨rfl, hb⟩
              refine ⟨_, rfl, ?_⟩
              replace HO_126002 := vb HO_126002 hb
              replace HO_126003 := vb HO_126003 hb
              replace BK124 := Aside0.mk (blk_below (bo BK124) hb)
              replace BK125 := Aside0.mk (blk_below (bo BK125) hb)
              replace BK126 := Aside0.mk (blk_below (bo BK126) hb)
              replace BK127 := Aside0.mk (blk_below (bo BK127) hb)
              replace BK134 := Aside0.mk (blk_below (bo BK134) hb)
              replace HB := Aside0.mk (below_step (bl HB) hb)
              (try clear hb)
              (try clear hb2)
              (try clear hk)
              (try clear hi)
              refine hK.out _ _ ⟨(blk_cell BK124.out 0).trans rfl, (blk_cell BK124.out 1).trans rfl, (blk_cell BK124.out 2).trans rfl, (blk_cell BK124.out 3).trans rfl⟩ (fun hHeld => ?_)
              clear hK K
              refine norm_ (a' := ?_) ?_ ?_
              rotate_left
              · show Act.put _ (some 51) _ = _
                simp only [Act.put, List.setIfInBounds_toArray, List.set_cons_zero, List.set_cons_succ, i64_w, i32_w]
                rfl
              refine pureB 5 52 ?_
              refine one_ (i := 6) (N := none) #[true, true, true, true, true, true, true] rfl rfl (by kernel_rfl) (by decide) (fun K hK => ?_)
              have hs92 : w91.cell? ⟨gb134, 2, none⟩ = some (.int .i64 0) := (blk_cell BK134.out 2).trans rfl
              have hfs92 := blk_frozen BK134.out 2
              have hns92_0 := NB124_134.out
              have hns92_1 := NB125_134.out
              have hns92_2 := NB126_134.out
              have hns92_3 := NB127_134.out
              have hms92_0 := NB134_124.out
              have hms92_1 := NB134_125.out
              have hms92_2 := NB134_126.out
              have hms92_3 := NB134_127.out
              refine skip_ (w1 := ?_) (by rfl) rfl ?_ ?_
              rotate_left
              · go_simp
                rfl
              refine hK.out _ _ ⟨((cell_far (p := ⟨gb134, _, none⟩) NB124_134.out _).trans (hHeld.1)), ((cell_far (p := ⟨gb134, _, none⟩) NB124_134.out _).trans (hHeld.2.1)), ((cell_far (p := ⟨gb134, _, none⟩) NB124_134.out _).trans (hHeld.2.2.1)), ((cell_far (p := ⟨gb134, _, none⟩) NB124_134.out _).trans (hHeld.2.2.2))⟩ (fun hHeld => ?_)
              clear hK K
              refine done_ (by kernel_rfl) ?_
              try go_wp2
              go_meet
              case rel => exact ⟨_, (t131), (false), (t136), (by first | (with_reducible rfl) | rfl | (simp; done) | (simp [*]; done)), H', ⟨by have := HJ4.out; first | omega | exact Nat.le_refl _⟩, ⟨by (with_reducible repeat (first | apply Kd.V_alloc | apply Kd.V_drewN | apply Kd.V_drew)); exact Kd.V_mono (Kd.V_far (p := ⟨gb134, 2, none⟩) (Kd.V_mono HO_126002.out (fun k_ hk => (⟨hk, hk.2⟩ : _ ∧ k_ ≠ gb134))) (fun _ hk => hk.2) (.int .i64 t136)) (fun _ hk => ⟨hk.1.1.1, ⟨hk.1.1.2.1, ⟨hk.1.1.2.2.1, ⟨hk.1.1.2.2.2.1, ⟨hk.1.1.2.2.2.2, hk.1.2⟩⟩⟩⟩⟩)⟩, ⟨by (with_reducible repeat (first | apply Kd.V_alloc | apply Kd.V_drewN | apply Kd.V_drew)); exact Kd.V_mono (Kd.V_far (p := ⟨gb134, 2, none⟩) (Kd.V_mono HO_126003.out (fun k_ hk => (⟨hk, hk.2⟩ : _ ∧ k_ ≠ gb134))) (fun _ hk => hk.2) (.int .i64 t136)) (fun _ hk => ⟨hk.1.1.1, ⟨hk.1.1.2.1, ⟨hk.1.1.2.2.1, ⟨hk.1.1.2.2.2.1, ⟨hk.1.1.2.2.2.2, hk.1.2⟩⟩⟩⟩⟩)⟩, ⟨by (with_reducible repeat (first | refine blk_drewN ?_ _ | refine blk_drew ?_ | refine blk_alloc ?_ _)); refine blk_far ?_ NB124_134.out _; (with_reducible repeat (first | refine blk_drewN ?_ _ | refine blk_drew ?_ | refine blk_alloc ?_ _)); exact BK124.out⟩, ⟨by (with_reducible repeat (first | refine blk_drewN ?_ _ | refine blk_drew ?_ | refine blk_alloc ?_ _)); refine blk_far ?_ NB125_134.out _; (with_reducible repeat (first | refine blk_drewN ?_ _ | refine blk_drew ?_ | refine blk_alloc ?_ _)); exact BK125.out⟩, ⟨by (with_reducible repeat (first | refine blk_drewN ?_ _ | refine blk_drew ?_ | refine blk_alloc ?_ _)); refine blk_far ?_ NB126_134.out _; (with_reducible repeat (first | refine blk_drewN ?_ _ | refine blk_drew ?_ | refine blk_alloc ?_ _)); exact BK126.out⟩, ⟨by (with_reducible repeat (first | refine blk_drewN ?_ _ | refine blk_drew ?_ | refine blk_alloc ?_ _)); refine blk_far ?_ NB127_134.out _; (with_reducible repeat (first | refine blk_drewN ?_ _ | refine blk_drew ?_ | refine blk_alloc ?_ _)); exact BK127.out⟩, ⟨by (with_reducible repeat (first | refine blk_drewN ?_ _ | refine blk_drew ?_ | refine blk_alloc ?_ _)); refine blk_put (cs := #[.bool false, .int .i64 0, .int .i64 0, .int .i64 0]) ?_ 2 _ rfl; (with_reducible repeat (first | refine blk_drewN ?_ _ | refine blk_drew ?_ | refine blk_alloc ?_ _)); exact BK134.out⟩, ⟨bl HB⟩⟩
        case rest =>
          clear HC53
          try clear c1
          try clear c2
          try clear p2
          try clear c3
          try clear c4
          try clear c5
          try clear c6
          try clear c7
          try clear c8
          try clear c23
          try clear c24
          try clear c25
          try clear c26
          try clear c31
          try clear c32
          try clear c33
          try clear c35
          try clear c36
          try clear c39
          try clear c40
          try clear c41
          try clear c42
          try clear c44
          try clear c45
          try clear c47
          try clear c54
          try clear c55
          try clear c56
          try clear c61
          try clear c62
          try clear c66
          try clear c66b0
          try clear c67
          try clear c68
          try clear c69
          try clear c70
          try clear c72
          try clear c72b0
          try clear c73
          try clear c74
          try clear c75
          try clear c76
          try clear c78
          try clear c79
          try clear c80
          try clear c84
          try clear c85
          try clear c86
          try clear c87
          try clear hcz18_0
          try clear hcz18_1
          try clear hcz18_2
          try clear hcz18_3
          try clear hcz21_0
          try clear hcz21_1
          try clear hcz21_2
          try clear hcz21_3
          try clear hcz26_0
          try clear hcz26_1
          try clear hcz26_2
          try clear hcz26_3
          try clear hcz29_0
          try clear hcz29_1
          try clear hcz29_2
          try clear hcz29_3
          try clear hcz34_0
          try clear hcz34_1
          try clear hcz34_2
          try clear hcz34_3
          try clear hcz37_0
          try clear hcz37_1
          try clear hcz37_2
          try clear hcz37_3
          try clear hcz43_0
          try clear hcz43_1
          try clear hcz43_2
          try clear hcz43_3
          try clear hcz46_0
          try clear hcz46_1
          try clear hcz46_2
          try clear hcz46_3
          try clear hcz48_0
          try clear hcz48_1
          try clear hcz48_2
          try clear hcz48_3
          try clear hcz57_0
          try clear hcz57_1
          try clear hcz57_2
          try clear hcz57_3
          try clear hcz63_0
          try clear hcz63_1
          try clear hcz63_2
          try clear hcz63_3
          try clear hcz71_0
          try clear hcz71_1
          try clear hcz71_2
          try clear hcz71_3
          try clear hcz77_0
          try clear hcz77_1
          try clear hcz77_2
          try clear hcz77_3
          try clear hcz81_0
          try clear hcz81_1
          try clear hcz81_2
          try clear hcz81_3
          try clear hcz88_0
          try clear hcz88_1
          try clear hcz88_2
          try clear hcz88_3
          try clear hfz18_0
          try clear hfz18_1
          try clear hfz18_2
          try clear hfz18_3
          try clear hfz21_0
          try clear hfz21_1
          try clear hfz21_2
          try clear hfz21_3
          try clear hfz26_0
          try clear hfz26_1
          try clear hfz26_2
          try clear hfz26_3
          try clear hfz29_0
          try clear hfz29_1
          try clear hfz29_2
          try clear hfz29_3
          try clear hfz34_0
          try clear hfz34_1
          try clear hfz34_2
          try clear hfz34_3
          try clear hfz37_0
          try clear hfz37_1
          try clear hfz37_2
          try clear hfz37_3
          try clear hfz43_0
          try clear hfz43_1
          try clear hfz43_2
          try clear hfz43_3
          try clear hfz46_0
          try clear hfz46_1
          try clear hfz46_2
          try clear hfz46_3
          try clear hfz48_0
          try clear hfz48_1
          try clear hfz48_2
          try clear hfz48_3
          try clear hfz57_0
          try clear hfz57_1
          try clear hfz57_2
          try clear hfz57_3
          try clear hfz63_0
          try clear hfz63_1
          try clear hfz63_2
          try clear hfz63_3
          try clear hfz71_0
          try clear hfz71_1
          try clear hfz71_2
          try clear hfz71_3
          try clear hfz77_0
          try clear hfz77_1
          try clear hfz77_2
          try clear hfz77_3
          try clear hfz81_0
          try clear hfz81_1
          try clear hfz81_2
          try clear hfz81_3
          try clear hfz88_0
          try clear hfz88_1
          try clear hfz88_2
          try clear hfz88_3
          obtain ⟨kq, x10_52, x135000_52, x135002_52, rfl, HA, HJ52, HO_126002, HO_126003, BK124, BK125, BK126, BK127, BK134, HB⟩ := hcut
          cases kq with
          | zero => exact absurd HA.out (by simp [gcra_Ask.j1])
          | succ kj52 =>
            have H := HA.out
            clear HA
            simp only [gcra_Ask.j1] at H
            by_cases c93 : a0_2 = 0
            · rw [if_pos c93] at H
              exact absurd H (by simp)
            · rw [if_neg c93] at H
              have c93b0 : (a0_2 == 0) = false := beq_eq_false_iff_ne.mpr c93
              have c93b1 : (a0_2 != 0) = true := bne_iff_ne.mpr c93
              replace H := Option.bind_eq_some_iff.mp H
              obtain ⟨t137, A940, H⟩ := H
              have A94 := Aside0.mk A940
              clear A940
              simp only [Option.some.injEq, Prod.mk.injEq] at H
              obtain ⟨rfl, rfl, rfl, rfl, rfl, rfl, rfl, rfl⟩ := H
              have hnb95 := NB124_125.out
              have hnc95 := NB125_124.out
              have hnb96 := NB124_126.out
              have hnc96 := NB126_124.out
              have hnb97 := NB124_127.out
              have hnc97 := NB127_124.out
              have hnb98 := NB124_134.out
              have hnc98 := NB134_124.out
              obtain ⟨hcz99_0, hcz99_1, hcz99_2, hcz99_3⟩ := ce4 BK124
              obtain ⟨hfz99_0, hfz99_1, hfz99_2, hfz99_3⟩ := fr4 BK124
              have hnb100 := NB134_125.out
              have hnc100 := NB125_134.out
              have hnb101 := NB134_126.out
              have hnc101 := NB126_134.out
              have hnb102 := NB134_127.out
              have hnc102 := NB127_134.out
              obtain ⟨hcz103_0, hcz103_1, hcz103_2, hcz103_3⟩ := ce4 BK134
              obtain ⟨hfz103_0, hfz103_1, hfz103_2, hfz103_3⟩ := fr4 BK134
              try go_wp2_with (first | ((with_reducible refine gate_callee (f := 26) rfl ?_); refine goesL_ (some 75) rfl rfl Try.func26 (by kernel_rfl) rfl #[.int .u64 x10_52, .agg #[.int .i64 a0_0, .int .i64 a0_1, .int .i64 a0_2, .int .i64 a0_3]] rfl (by (try simp only [List.map_toArray, List.map_cons, List.map_nil]); first | done | rfl | (simp only [List.length_drop, List.length_take]; rfl)) ?_; (with_reducible refine (gcra_parts_ticks.calls x10_52 a0_0 a0_1 a0_2 a0_3 t137 _ A94.out).mono ?_); rintro e w104 ⟨rfl, hb⟩; refine ⟨_, rfl, ?_⟩; replace HO_126002 := Aside0.mk (Kd.V_below (by (with_reducible repeat (first | apply Kd.V_alloc | apply Kd.V_drewN | apply Kd.V_drew)); exact (Kd.V_mono (Kd.V_far (p := ⟨gb134, 1, none⟩) (Kd.V_mono HO_126002.out (fun k_ hk => (⟨hk, hk.2.2.2.2.2⟩ : _ ∧ k_ ≠ gb134))) (fun _ hk => hk.2) (.int .i64 (wrap64 (Int.tdiv (wrap64 (IntKind.u64.wrap (t132 - x10_52))) a0_2)))) (fun _ h_ => h_.1))) hb); replace HO_126003 := Aside0.mk (Kd.V_below (by (with_reducible repeat (first | apply Kd.V_alloc | apply Kd.V_drewN | apply Kd.V_drew)); exact (Kd.V_mono (Kd.V_far (p := ⟨gb134, 1, none⟩) (Kd.V_mono HO_126003.out (fun k_ hk => (⟨hk, hk.2.2.2.2.2⟩ : _ ∧ k_ ≠ gb134))) (fun _ hk => hk.2) (.int .i64 (wrap64 (Int.tdiv (wrap64 (IntKind.u64.wrap (t132 - x10_52))) a0_2)))) (fun _ h_ => h_.1))) hb); replace BK124 := Aside0.mk (blk_below (g := gb124) (o := .cells #[.int .i64 a0_0, .int .i64 a0_1, .int .i64 a0_2, .int .i64 a0_3] 23 (0, 0)) (by (with_reducible repeat (first | refine blk_drewN ?_ _ | refine blk_drew ?_ | refine blk_alloc ?_ _)); refine blk_far ?_ NB124_134.out _; (with_reducible repeat (first | refine blk_drewN ?_ _ | refine blk_drew ?_ | refine blk_alloc ?_ _)); exact BK124.out) hb); replace BK125 := Aside0.mk (blk_below (g := gb125) (o := .cells #[.int .i64 a1_0, .int .i64 a1_1, .slice A1_2 l1_2.length c1_2, .slice A1_3 l1_3.length c1_3] 27 (0, 0)) (by (with_reducible repeat (first | refine blk_drewN ?_ _ | refine blk_drew ?_ | refine blk_alloc ?_ _)); refine blk_far ?_ NB125_134.out _; (with_reducible repeat (first | refine blk_drewN ?_ _ | refine blk_drew ?_ | refine blk_alloc ?_ _)); exact BK125.out) hb); replace BK126 := Aside0.mk (blk_below (g := gb126) (o := .cells #[.int .i64 0, .int .i64 0, .slice none 0 0, .slice none 0 0] 27 (0, 0)) (by (with_reducible repeat (first | refine blk_drewN ?_ _ | refine blk_drew ?_ | refine blk_alloc ?_ _)); refine blk_far ?_ NB126_134.out _; (with_reducible repeat (first | refine blk_drewN ?_ _ | refine blk_drew ?_ | refine blk_alloc ?_ _)); exact BK126.out) hb); replace BK127 := Aside0.mk (blk_below (g := gb127) (o := .cells #[.bool false, .int .i64 0, .int .i64 0, .int .i64 0] 32 (0, 0)) (by (with_reducible repeat (first | refine blk_drewN ?_ _ | refine blk_drew ?_ | refine blk_alloc ?_ _)); refine blk_far ?_ NB127_134.out _; (with_reducible repeat (first | refine blk_drewN ?_ _ | refine blk_drew ?_ | refine blk_alloc ?_ _)); exact BK127.out) hb); replace BK134 := Aside0.mk (blk_below (g := gb134) (o := .cells #[.bool x135000_52, .int .i64 (wrap64 (Int.tdiv (wrap64 (IntKind.u64.wrap (t132 - x10_52))) a0_2)), .int .i64 x135002_52, .int .i64 0] 32 (0, 0)) (by (with_reducible repeat (first | refine blk_drewN ?_ _ | refine blk_drew ?_ | refine blk_alloc ?_ _)); refine blk_put (cs := #[.bool x135000_52, .int .i64 0, .int .i64 x135002_52, .int .i64 0]) ?_ 1 _ rfl; (with_reducible repeat (first | refine blk_drewN ?_ _ | refine blk_drew ?_ | refine blk_alloc ?_ _)); exact BK134.out) hb); replace HB := Aside0.mk (below_step (bl HB) hb); (try clear hb); (try clear hb2); (try clear hk); (try clear hi); obtain ⟨hcz105_0, hcz105_1, hcz105_2, hcz105_3⟩ := ce4 BK134; obtain ⟨hfz105_0, hfz105_1, hfz105_2, hfz105_3⟩ := fr4 BK134))
              have n0_ : Aside0 (Kd.V (Kd.int .i64) 3 (w104.setCell ⟨gb134, 3, none⟩ (.int .i64 t137)) w.heap.size (fun k_ => ((P1_2_ k_ ∨ P1_3_ k_) ∨ w.heap.size ≤ k_) ∧ k_ ≠ gb124 ∧ k_ ≠ gb125 ∧ k_ ≠ gb126 ∧ k_ ≠ gb127 ∧ k_ ≠ gb134) (.slice A1_2 l1_2.length c1_2) l1_2) := ⟨by (with_reducible repeat (first | apply Kd.V_alloc | apply Kd.V_drewN | apply Kd.V_drew)); exact Kd.V_mono (Kd.V_far (p := ⟨gb134, 3, none⟩) (Kd.V_mono HO_126002.out (fun k_ hk => (⟨hk, hk.2.2.2.2.2⟩ : _ ∧ k_ ≠ gb134))) (fun _ hk => hk.2) (.int .i64 t137)) (fun _ hk => ⟨hk.1.1, ⟨hk.1.2.1, ⟨hk.1.2.2.1, ⟨hk.1.2.2.2.1, ⟨hk.1.2.2.2.2.1, hk.1.2.2.2.2.2⟩⟩⟩⟩⟩)⟩
              have n1_ : Aside0 (Kd.V k57 57 (w104.setCell ⟨gb134, 3, none⟩ (.int .i64 t137)) w.heap.size (fun k_ => ((P1_2_ k_ ∨ P1_3_ k_) ∨ w.heap.size ≤ k_) ∧ k_ ≠ gb124 ∧ k_ ≠ gb125 ∧ k_ ≠ gb126 ∧ k_ ≠ gb127 ∧ k_ ≠ gb134) (.slice A1_3 l1_3.length c1_3) l1_3) := ⟨by (with_reducible repeat (first | apply Kd.V_alloc | apply Kd.V_drewN | apply Kd.V_drew)); exact Kd.V_mono (Kd.V_far (p := ⟨gb134, 3, none⟩) (Kd.V_mono HO_126003.out (fun k_ hk => (⟨hk, hk.2.2.2.2.2⟩ : _ ∧ k_ ≠ gb134))) (fun _ hk => hk.2) (.int .i64 t137)) (fun _ hk => ⟨hk.1.1, ⟨hk.1.2.1, ⟨hk.1.2.2.1, ⟨hk.1.2.2.2.1, ⟨hk.1.2.2.2.2.1, hk.1.2.2.2.2.2⟩⟩⟩⟩⟩)⟩
              have n2_ : Aside0 ((w104.setCell ⟨gb134, 3, none⟩ (.int .i64 t137)).heap[gb124]? = some (.cells #[.int .i64 a0_0, .int .i64 a0_1, .int .i64 a0_2, .int .i64 a0_3] 23 (0, 0))) := ⟨by (with_reducible repeat (first | refine blk_drewN ?_ _ | refine blk_drew ?_ | refine blk_alloc ?_ _)); refine blk_far ?_ NB124_134.out _; (with_reducible repeat (first | refine blk_drewN ?_ _ | refine blk_drew ?_ | refine blk_alloc ?_ _)); exact BK124.out⟩
              have n3_ : Aside0 ((w104.setCell ⟨gb134, 3, none⟩ (.int .i64 t137)).heap[gb125]? = some (.cells #[.int .i64 a1_0, .int .i64 a1_1, .slice A1_2 l1_2.length c1_2, .slice A1_3 l1_3.length c1_3] 27 (0, 0))) := ⟨by (with_reducible repeat (first | refine blk_drewN ?_ _ | refine blk_drew ?_ | refine blk_alloc ?_ _)); refine blk_far ?_ NB125_134.out _; (with_reducible repeat (first | refine blk_drewN ?_ _ | refine blk_drew ?_ | refine blk_alloc ?_ _)); exact BK125.out⟩
              have n4_ : Aside0 ((w104.setCell ⟨gb134, 3, none⟩ (.int .i64 t137)).heap[gb126]? = some (.cells #[.int .i64 0, .int .i64 0, .slice none 0 0, .slice none 0 0] 27 (0, 0))) := ⟨by (with_reducible repeat (first | refine blk_drewN ?_ _ | refine blk_drew ?_ | refine blk_alloc ?_ _)); refine blk_far ?_ NB126_134.out _; (with_reducible repeat (first | refine blk_drewN ?_ _ | refine blk_drew ?_ | refine blk_alloc ?_ _)); exact BK126.out⟩
              have n5_ : Aside0 ((w104.setCell ⟨gb134, 3, none⟩ (.int .i64 t137)).heap[gb127]? = some (.cells #[.bool false, .int .i64 0, .int .i64 0, .int .i64 0] 32 (0, 0))) := ⟨by (with_reducible repeat (first | refine blk_drewN ?_ _ | refine blk_drew ?_ | refine blk_alloc ?_ _)); refine blk_far ?_ NB127_134.out _; (with_reducible repeat (first | refine blk_drewN ?_ _ | refine blk_drew ?_ | refine blk_alloc ?_ _)); exact BK127.out⟩
              have n6_ : Aside0 ((w104.setCell ⟨gb134, 3, none⟩ (.int .i64 t137)).heap[gb134]? = some (.cells #[.bool x135000_52, .int .i64 (wrap64 (Int.tdiv (wrap64 (IntKind.u64.wrap (t132 - x10_52))) a0_2)), .int .i64 x135002_52, .int .i64 t137] 32 (0, 0))) := ⟨by (with_reducible repeat (first | refine blk_drewN ?_ _ | refine blk_drew ?_ | refine blk_alloc ?_ _)); refine blk_put (cs := #[.bool x135000_52, .int .i64 (wrap64 (Int.tdiv (wrap64 (IntKind.u64.wrap (t132 - x10_52))) a0_2)), .int .i64 x135002_52, .int .i64 0]) ?_ 3 _ rfl; (with_reducible repeat (first | refine blk_drewN ?_ _ | refine blk_drew ?_ | refine blk_alloc ?_ _)); exact BK134.out⟩
              have n7_ : Aside0 (Below w.heap.size w (w104.setCell ⟨gb134, 3, none⟩ (.int .i64 t137))) := ⟨bl HB⟩
              (try clear HO_126002)
              (try clear HO_126003)
              (try clear BK124)
              (try clear BK125)
              (try clear BK126)
              (try clear BK127)
              (try clear BK134)
              (try clear HB)
              generalize (w104.setCell ⟨gb134, 3, none⟩ (.int .i64 t137)) = w106 at n0_ n1_ n2_ n3_ n4_ n5_ n6_ n7_ ⊢
              have HO_126002 := n0_
              have HO_126003 := n1_
              have BK124 := n2_
              have BK125 := n3_
              have BK126 := n4_
              have BK127 := n5_
              have BK134 := n6_
              have HB := n7_
              clear n0_ n1_ n2_ n3_ n4_ n5_ n6_ n7_
              replace HO_126002 := Aside0.mk (Kd.V_drew HO_126002.out)
              replace HO_126003 := Aside0.mk (Kd.V_drew HO_126003.out)
              replace BK124 := Aside0.mk (blk_drew BK124.out)
              replace BK125 := Aside0.mk (blk_drew BK125.out)
              replace BK126 := Aside0.mk (blk_drew BK126.out)
              replace BK127 := Aside0.mk (blk_drew BK127.out)
              replace BK134 := Aside0.mk (blk_drew BK134.out)
              replace HB := Aside0.mk (below_drew1 HB.out)
              refine start_ (n := 7) (S := fun w' => w'.cell? ⟨gb134, 0, none⟩ = some (.bool x135000_52) ∧ w'.cell? ⟨gb134, 1, none⟩ = some (.int .i64 (wrap64 (Int.tdiv (wrap64 (IntKind.u64.wrap (t132 - x10_52))) a0_2))) ∧ w'.cell? ⟨gb134, 2, none⟩ = some (.int .i64 x135002_52) ∧ w'.cell? ⟨gb134, 3, none⟩ = some (.int .i64 t137)) (ds := []) #[false, false, false, false, false, false, false] (by kernel_rfl) rfl rfl ⟨(blk_cell BK134.out 0).trans rfl, (blk_cell BK134.out 1).trans rfl, (blk_cell BK134.out 2).trans rfl, (blk_cell BK134.out 3).trans rfl⟩ (fun hHeld => ?_)
              generalize w106.drew = w107 at HO_126002 HO_126003 BK124 BK125 BK126 BK127 BK134 HB hHeld ⊢
              refine pureB 0 77 ?_
              refine pureB 1 78 ?_
              refine pureB 2 79 ?_
              refine pureB 3 80 ?_
              refine takeB' 4 81 hHeld ?_
              refine one_ (i := 5) (N := none) #[true, true, true, true, true, true, false] rfl rfl (by kernel_rfl) (by decide) (fun K hK => ?_)
              have hs108 : w107.cell? ⟨gb126, 0, none⟩ = some (.int .i64 0) := (blk_cell BK126.out 0).trans rfl
              have hfs108 := blk_frozen BK126.out 0
              have hns108_0 := NB124_126.out
              have hns108_1 := NB125_126.out
              have hns108_3 := NB127_126.out
              have hns108_4 := NB134_126.out
              have hms108_0 := NB126_124.out
              have hms108_1 := NB126_125.out
              have hms108_3 := NB126_127.out
              have hms108_4 := NB126_134.out
              have hs109 : w107.cell? ⟨gb126, 1, none⟩ = some (.int .i64 0) := (blk_cell BK126.out 1).trans rfl
              have hfs109 := blk_frozen BK126.out 1
              have hns109_0 := NB124_126.out
              have hns109_1 := NB125_126.out
              have hns109_3 := NB127_126.out
              have hns109_4 := NB134_126.out
              have hms109_0 := NB126_124.out
              have hms109_1 := NB126_125.out
              have hms109_3 := NB126_127.out
              have hms109_4 := NB126_134.out
              have hs110 : w107.cell? ⟨gb126, 2, none⟩ = some (.slice none 0 0) := (blk_cell BK126.out 2).trans rfl
              have hfs110 := blk_frozen BK126.out 2
              have hns110_0 := NB124_126.out
              have hns110_1 := NB125_126.out
              have hns110_3 := NB127_126.out
              have hns110_4 := NB134_126.out
              have hms110_0 := NB126_124.out
              have hms110_1 := NB126_125.out
              have hms110_3 := NB126_127.out
              have hms110_4 := NB126_134.out
              have hs111 : w107.cell? ⟨gb126, 3, none⟩ = some (.slice none 0 0) := (blk_cell BK126.out 3).trans rfl
              have hfs111 := blk_frozen BK126.out 3
              have hns111_0 := NB124_126.out
              have hns111_1 := NB125_126.out
              have hns111_3 := NB127_126.out
              have hns111_4 := NB134_126.out
              have hms111_0 := NB126_124.out
              have hms111_1 := NB126_125.out
              have hms111_3 := NB126_127.out
              have hms111_4 := NB126_134.out
              refine skip_ (w1 := ?_) (by rfl) rfl ?_ ?_
              rotate_left
              · go_simp
                rfl
              refine hK.out _ _ ⟨((cell_far (p := ⟨gb126, _, none⟩) NB134_126.out _).trans (((cell_far (p := ⟨gb126, _, none⟩) NB134_126.out _).trans (((cell_far (p := ⟨gb126, _, none⟩) NB134_126.out _).trans (((cell_far (p := ⟨gb126, _, none⟩) NB134_126.out _).trans (hHeld.1)))))))), ((cell_far (p := ⟨gb126, _, none⟩) NB134_126.out _).trans (((cell_far (p := ⟨gb126, _, none⟩) NB134_126.out _).trans (((cell_far (p := ⟨gb126, _, none⟩) NB134_126.out _).trans (((cell_far (p := ⟨gb126, _, none⟩) NB134_126.out _).trans (hHeld.2.1)))))))), ((cell_far (p := ⟨gb126, _, none⟩) NB134_126.out _).trans (((cell_far (p := ⟨gb126, _, none⟩) NB134_126.out _).trans (((cell_far (p := ⟨gb126, _, none⟩) NB134_126.out _).trans (((cell_far (p := ⟨gb126, _, none⟩) NB134_126.out _).trans (hHeld.2.2.1)))))))), ((cell_far (p := ⟨gb126, _, none⟩) NB134_126.out _).trans (((cell_far (p := ⟨gb126, _, none⟩) NB134_126.out _).trans (((cell_far (p := ⟨gb126, _, none⟩) NB134_126.out _).trans (((cell_far (p := ⟨gb126, _, none⟩) NB134_126.out _).trans (hHeld.2.2.2))))))))⟩ (fun hHeld => ?_)
              clear hK K
              refine one_ (i := 6) (N := none) #[true, true, true, true, true, true, true] rfl rfl (by kernel_rfl) (by decide) (fun K hK => ?_)
              have hs112 : w107.cell? ⟨gb127, 0, none⟩ = some (.bool false) := (blk_cell BK127.out 0).trans rfl
              have hfs112 := blk_frozen BK127.out 0
              have hns112_0 := NB124_127.out
              have hns112_1 := NB125_127.out
              have hns112_2 := NB126_127.out
              have hns112_4 := NB134_127.out
              have hms112_0 := NB127_124.out
              have hms112_1 := NB127_125.out
              have hms112_2 := NB127_126.out
              have hms112_4 := NB127_134.out
              have hs113 : w107.cell? ⟨gb127, 1, none⟩ = some (.int .i64 0) := (blk_cell BK127.out 1).trans rfl
              have hfs113 := blk_frozen BK127.out 1
              have hns113_0 := NB124_127.out
              have hns113_1 := NB125_127.out
              have hns113_2 := NB126_127.out
              have hns113_4 := NB134_127.out
              have hms113_0 := NB127_124.out
              have hms113_1 := NB127_125.out
              have hms113_2 := NB127_126.out
              have hms113_4 := NB127_134.out
              have hs114 : w107.cell? ⟨gb127, 2, none⟩ = some (.int .i64 0) := (blk_cell BK127.out 2).trans rfl
              have hfs114 := blk_frozen BK127.out 2
              have hns114_0 := NB124_127.out
              have hns114_1 := NB125_127.out
              have hns114_2 := NB126_127.out
              have hns114_4 := NB134_127.out
              have hms114_0 := NB127_124.out
              have hms114_1 := NB127_125.out
              have hms114_2 := NB127_126.out
              have hms114_4 := NB127_134.out
              have hs115 : w107.cell? ⟨gb127, 3, none⟩ = some (.int .i64 0) := (blk_cell BK127.out 3).trans rfl
              have hfs115 := blk_frozen BK127.out 3
              have hns115_0 := NB124_127.out
              have hns115_1 := NB125_127.out
              have hns115_2 := NB126_127.out
              have hns115_4 := NB134_127.out
              have hms115_0 := NB127_124.out
              have hms115_1 := NB127_125.out
              have hms115_2 := NB127_126.out
              have hms115_4 := NB127_134.out
              refine skip_ (w1 := ?_) (by rfl) rfl ?_ ?_
              rotate_left
              · go_simp
                rfl
              refine hK.out _ _ ⟨((cell_far (p := ⟨gb127, _, none⟩) NB134_127.out _).trans (((cell_far (p := ⟨gb127, _, none⟩) NB134_127.out _).trans (((cell_far (p := ⟨gb127, _, none⟩) NB134_127.out _).trans (((cell_far (p := ⟨gb127, _, none⟩) NB134_127.out _).trans (hHeld.1)))))))), ((cell_far (p := ⟨gb127, _, none⟩) NB134_127.out _).trans (((cell_far (p := ⟨gb127, _, none⟩) NB134_127.out _).trans (((cell_far (p := ⟨gb127, _, none⟩) NB134_127.out _).trans (((cell_far (p := ⟨gb127, _, none⟩) NB134_127.out _).trans (hHeld.2.1)))))))), ((cell_far (p := ⟨gb127, _, none⟩) NB134_127.out _).trans (((cell_far (p := ⟨gb127, _, none⟩) NB134_127.out _).trans (((cell_far (p := ⟨gb127, _, none⟩) NB134_127.out _).trans (((cell_far (p := ⟨gb127, _, none⟩) NB134_127.out _).trans (hHeld.2.2.1)))))))), ((cell_far (p := ⟨gb127, _, none⟩) NB134_127.out _).trans (((cell_far (p := ⟨gb127, _, none⟩) NB134_127.out _).trans (((cell_far (p := ⟨gb127, _, none⟩) NB134_127.out _).trans (((cell_far (p := ⟨gb127, _, none⟩) NB134_127.out _).trans (hHeld.2.2.2))))))))⟩ (fun hHeld => ?_)
              clear hK K
              refine done_ (by kernel_rfl) ?_
              try go_wp2
              refine bodyPost_ret (results_cc rfl _ _ gb126 gb127 27 32 #[.int .i64 ji49, .int .i64 (wrap64 (x10_52)), .slice none 0 0, .slice none 0 0] #[.bool x135000_52, .int .i64 (wrap64 (Int.tdiv (wrap64 (IntKind.u64.wrap (t132 - x10_52))) a0_2)), .int .i64 x135002_52, .int .i64 t137] (0, 0) (0, 0) _ _ rfl (by (with_reducible repeat (first | refine blk_drewN ?_ _ | refine blk_drew ?_ | refine blk_alloc ?_ _)); refine blk_far ?_ NB126_127.out _; (with_reducible repeat (first | refine blk_drewN ?_ _ | refine blk_drew ?_ | refine blk_alloc ?_ _)); refine blk_far ?_ NB126_127.out _; (with_reducible repeat (first | refine blk_drewN ?_ _ | refine blk_drew ?_ | refine blk_alloc ?_ _)); refine blk_far ?_ NB126_127.out _; (with_reducible repeat (first | refine blk_drewN ?_ _ | refine blk_drew ?_ | refine blk_alloc ?_ _)); refine blk_far ?_ NB126_127.out _; (with_reducible repeat (first | refine blk_drewN ?_ _ | refine blk_drew ?_ | refine blk_alloc ?_ _)); refine blk_put (cs := #[.int .i64 ji49, .int .i64 (wrap64 (x10_52)), .slice none 0 0, .slice none 0 0]) ?_ 3 _ rfl; (with_reducible repeat (first | refine blk_drewN ?_ _ | refine blk_drew ?_ | refine blk_alloc ?_ _)); refine blk_put (cs := #[.int .i64 ji49, .int .i64 (wrap64 (x10_52)), .slice none 0 0, .slice none 0 0]) ?_ 2 _ rfl; (with_reducible repeat (first | refine blk_drewN ?_ _ | refine blk_drew ?_ | refine blk_alloc ?_ _)); refine blk_put (cs := #[.int .i64 ji49, .int .i64 0, .slice none 0 0, .slice none 0 0]) ?_ 1 _ rfl; (with_reducible repeat (first | refine blk_drewN ?_ _ | refine blk_drew ?_ | refine blk_alloc ?_ _)); refine blk_put (cs := #[.int .i64 0, .int .i64 0, .slice none 0 0, .slice none 0 0]) ?_ 0 _ rfl; (with_reducible repeat (first | refine blk_drewN ?_ _ | refine blk_drew ?_ | refine blk_alloc ?_ _)); exact BK126.out) Try.underlying27 rfl (by kernel_rfl) rfl (by (with_reducible repeat (first | refine blk_drewN ?_ _ | refine blk_drew ?_ | refine blk_alloc ?_ _)); refine blk_put (cs := #[.bool x135000_52, .int .i64 (wrap64 (Int.tdiv (wrap64 (IntKind.u64.wrap (t132 - x10_52))) a0_2)), .int .i64 x135002_52, .int .i64 0]) ?_ 3 _ rfl; (with_reducible repeat (first | refine blk_drewN ?_ _ | refine blk_drew ?_ | refine blk_alloc ?_ _)); refine blk_put (cs := #[.bool x135000_52, .int .i64 (wrap64 (Int.tdiv (wrap64 (IntKind.u64.wrap (t132 - x10_52))) a0_2)), .int .i64 0, .int .i64 0]) ?_ 2 _ rfl; (with_reducible repeat (first | refine blk_drewN ?_ _ | refine blk_drew ?_ | refine blk_alloc ?_ _)); refine blk_put (cs := #[.bool x135000_52, .int .i64 0, .int .i64 0, .int .i64 0]) ?_ 1 _ rfl; (with_reducible repeat (first | refine blk_drewN ?_ _ | refine blk_drew ?_ | refine blk_alloc ?_ _)); refine blk_put (cs := #[.bool false, .int .i64 0, .int .i64 0, .int .i64 0]) ?_ 0 _ rfl; (with_reducible repeat (first | refine blk_drewN ?_ _ | refine blk_drew ?_ | refine blk_alloc ?_ _)); refine blk_far ?_ NB127_126.out _; (with_reducible repeat (first | refine blk_drewN ?_ _ | refine blk_drew ?_ | refine blk_alloc ?_ _)); refine blk_far ?_ NB127_126.out _; (with_reducible repeat (first | refine blk_drewN ?_ _ | refine blk_drew ?_ | refine blk_alloc ?_ _)); refine blk_far ?_ NB127_126.out _; (with_reducible repeat (first | refine blk_drewN ?_ _ | refine blk_drew ?_ | refine blk_alloc ?_ _)); refine blk_far ?_ NB127_126.out _; (with_reducible repeat (first | refine blk_drewN ?_ _ | refine blk_drew ?_ | refine blk_alloc ?_ _)); exact BK127.out) Try.underlying32 rfl (by kernel_rfl)) rfl ?_
              exact ⟨_, _, by first | (with_reducible rfl) | (simp only [← hji49]; with_reducible rfl) | (simp only [← hji49]; done) | rfl | (simp [errW_none, errW_some] <;> rfl) | (simp only [← hji49]; first | rfl | (simp [errW_none, errW_some] <;> rfl)) | (simp [*, errW_none, errW_some] <;> rfl), Kd.V_nil _ _ _ _ _, Kd.V_nil _ _ _ _ _, bl HB⟩

end Go.Proofs.Ytpeljhmbaibjcaa.Q
