-- Laid by wip/tools/hprint.py, a program of this repo, over the kit's print; not a text of print.sh.
import Derived.Test.YtalcmlgkdkbbaaaQ0
import Derived.Test.YtalcmlgkdkbbaaaQ4
import Derived.Test.YtalcmlgkdkbbaaaQ8
import Derived.Test.YtalcmlgkdkbbaaaQ10
import Derived.Test.YtalcmlgkdkbbaaaQ11
import Derived.Test.YtalcmlgkdkbbaaaQ12
import Derived.Test.YtalcmlgkdkbbaaaQ13
import Derived.Test.YtalcmlgkdkbbaaaQ15
namespace Go.Proofs.Ytalcmlgkdkbbaaa.Q
open Go.RowKit Go.Proofs.Ytalcmlgkdkbbaaa.Zip Go.Proofs.YtalcmlgkdkbbaaaW.PrintWords Go.Proofs.YtalcmlgkdkbbaaaW.PrintLast Go.Proofs.YtalcmlgkdkbbaaaW.PrintMore
attribute [local go_sem] max2_int min2_int max_two min_two max_three min_three max_four min_four   -- for this text's walks alone
set_option linter.unusedVariables false
set_option linter.unusedSimpArgs false

/-! ### ring_Ask: function 10 -/
mutual
def ring_Ask.j0 : Nat → Int → Int → Bool → Int → Int → Int → Int → Int → Int → List Int → List (S54) → Option (Int × Int × List Int × (List (S54)) × Bool × Int × Int × Int)
  | 0, _, _, _, _, _, _, _, _, _, _, _ => none
  | k + 1, x2, x3, x24, x126000, x126001, x126002, x126003, x127000, x127001, x127002, x127003 => if x24 = true then (some (x127000, x127001, x127002, x127003, false, 0, 0, 0)) else ((ring_at.f x126000 x126001 x126002 x126003 x127000 x127001 x127002 x127003 (mx x2 x127000)).bind fun bt132 => ((ring_total.f k bt132.1 bt132.2.1 bt132.2.2.1 bt132.2.2.2).bind fun t141 => (if (wrap64 (t141 + x3)) ≤ x126001 then ((ring_number.f x126000 x126001 x126002 x126003 bt132.1).bind fun t142 => (if x126003 = 0 then (none) else (if 0 ≤ (Int.tmod t142 x126003) then (if (Int.tmod t142 x126003) < (bt132.2.2.1.length : Int) then (ring_Ask.j1 k x126000 x126001 x126002 x126003 bt132.1 bt132.2.1 (bt132.2.2.1.set ((Int.tmod t142 x126003) : Int).toNat (wrap64 ((rd bt132.2.2.1 (Int.tmod t142 x126003)) + x3))) bt132.2.2.2 true 0 0 0) else (none)) else (none)))) else (if x3 > x126001 then (ring_Ask.j1 k x126000 x126001 x126002 x126003 bt132.1 bt132.2.1 bt132.2.2.1 bt132.2.2.2 false 0 2199023255552 0) else ((ring_wait.f k x126000 x126001 x126002 x126003 bt132.1 bt132.2.1 bt132.2.2.1 bt132.2.2.2 (wrap64 (x126001 - x3))).bind fun t145 => (ring_Ask.j1 k x126000 x126001 x126002 x126003 bt132.1 bt132.2.1 bt132.2.2.1 bt132.2.2.2 false 0 t145 0))))))
def ring_Ask.j1 : Nat → Int → Int → Int → Int → Int → Int → List Int → List (S54) → Bool → Int → Int → Int → Option (Int × Int × List Int × (List (S54)) × Bool × Int × Int × Int)
  | 0, _, _, _, _, _, _, _, _, _, _, _, _ => none
  | k + 1, x126000, x126001, x126002, x126003, x127000, x127001, x127002, x127003, x141000, x141001, x141002, x141003 => (ring_total.f k x127000 x127001 x127002 x127003).bind fun t146 => ((ring_wait.f k x126000 x126001 x126002 x126003 x127000 x127001 x127002 x127003 0).bind fun t147 => (some (x127000, x127001, x127002, x127003, x141000, wrap64 (x126001 - t146), x141002, t147)))
end
def ring_Ask.f (k : Nat) (a0_0 : Int) (a0_1 : Int) (a0_2 : Int) (a0_3 : Int) (a1_0 : Int) (a1_1 : Int) (l1_2 : List Int) (l1_3 : List (S54)) (a2 : Int) (a3 : Int) : Option (Int × Int × List Int × (List (S54)) × Bool × Int × Int × Int) := (ring_May.f k a0_0 a0_1 a0_2 a0_3 a1_0 a1_1 l1_2 l1_3).bind fun t129 => (if t129 = true then ((ring_time.f a2).bind fun t130 => (if t130 = true then ((policy_Weighs.f a3).bind fun t131 => (ring_Ask.j0 k a2 a3 (!t131) a0_0 a0_1 a0_2 a0_3 a1_0 a1_1 l1_2 l1_3)) else (ring_Ask.j0 k a2 a3 true a0_0 a0_1 a0_2 a0_3 a1_0 a1_1 l1_2 l1_3))) else (ring_Ask.j0 k a2 a3 true a0_0 a0_1 a0_2 a0_3 a1_0 a1_1 l1_2 l1_3))
theorem ring_Ask.mono_l : ∀ k, (∀ y0 y1 y2 y3 y4 y5 y6 y7 y8 y9 y10, LeO (ring_Ask.j0 k y0 y1 y2 y3 y4 y5 y6 y7 y8 y9 y10) (ring_Ask.j0 (k + 1) y0 y1 y2 y3 y4 y5 y6 y7 y8 y9 y10)) ∧ (∀ y0 y1 y2 y3 y4 y5 y6 y7 y8 y9 y10 y11, LeO (ring_Ask.j1 k y0 y1 y2 y3 y4 y5 y6 y7 y8 y9 y10 y11) (ring_Ask.j1 (k + 1) y0 y1 y2 y3 y4 y5 y6 y7 y8 y9 y10 y11))
  | 0 => ⟨fun _ _ _ _ _ _ _ _ _ _ _ r h => by simp [ring_Ask.j0] at h, fun _ _ _ _ _ _ _ _ _ _ _ _ r h => by simp [ring_Ask.j1] at h⟩
  | k + 1 => by
    obtain ⟨ih0, ih1⟩ := ring_Ask.mono_l k
    refine ⟨?_, ?_⟩
    · intro y0 y1 y2 y3 y4 y5 y6 y7 y8 y9 y10
      unfold ring_Ask.j0
      repeat' first
      | (with_reducible exact ih0 _ _ _ _ _ _ _ _ _ _ _)
      | (with_reducible exact ih1 _ _ _ _ _ _ _ _ _ _ _ _)
      | (with_reducible exact ring_May.mono _ _ _ _ _ _ _ _ _)
      | (with_reducible exact ring_total.mono _ _ _ _ _)
      | (with_reducible exact ring_wait.mono _ _ _ _ _ _ _ _ _ _)
      | (with_reducible exact LeO.refl _)
      | (with_reducible exact LeO.none _)
      | (with_reducible refine LeO.ite ?_ ?_)
      | (with_reducible refine LeO.bind ?_ (fun _ => ?_))
      | exact ih0 _ _ _ _ _ _ _ _ _ _ _
      | exact ih1 _ _ _ _ _ _ _ _ _ _ _ _
      | exact ring_May.mono _ _ _ _ _ _ _ _ _
      | exact ring_total.mono _ _ _ _ _
      | exact ring_wait.mono _ _ _ _ _ _ _ _ _ _
      | exact LeO.none _
      | refine LeO.ite ?_ ?_
      | refine LeO.bind ?_ (fun _ => ?_)
    · intro y0 y1 y2 y3 y4 y5 y6 y7 y8 y9 y10 y11
      unfold ring_Ask.j1
      repeat' first
      | (with_reducible exact ih0 _ _ _ _ _ _ _ _ _ _ _)
      | (with_reducible exact ih1 _ _ _ _ _ _ _ _ _ _ _ _)
      | (with_reducible exact ring_May.mono _ _ _ _ _ _ _ _ _)
      | (with_reducible exact ring_total.mono _ _ _ _ _)
      | (with_reducible exact ring_wait.mono _ _ _ _ _ _ _ _ _ _)
      | (with_reducible exact LeO.refl _)
      | (with_reducible exact LeO.none _)
      | (with_reducible refine LeO.ite ?_ ?_)
      | (with_reducible refine LeO.bind ?_ (fun _ => ?_))
      | exact ih0 _ _ _ _ _ _ _ _ _ _ _
      | exact ih1 _ _ _ _ _ _ _ _ _ _ _ _
      | exact ring_May.mono _ _ _ _ _ _ _ _ _
      | exact ring_total.mono _ _ _ _ _
      | exact ring_wait.mono _ _ _ _ _ _ _ _ _ _
      | exact LeO.none _
      | refine LeO.ite ?_ ?_
      | refine LeO.bind ?_ (fun _ => ?_)
theorem ring_Ask.mono : ∀ a0 a1 a2 a3 a4 a5 a6 a7 a8 a9 k, LeO (ring_Ask.f k a0 a1 a2 a3 a4 a5 a6 a7 a8 a9) (ring_Ask.f (k + 1) a0 a1 a2 a3 a4 a5 a6 a7 a8 a9) := by
  intro a0 a1 a2 a3 a4 a5 a6 a7 a8 a9 k
  obtain ⟨ih0, ih1⟩ := ring_Ask.mono_l k
  unfold ring_Ask.f
  repeat' first
      | (with_reducible exact ih0 _ _ _ _ _ _ _ _ _ _ _)
      | (with_reducible exact ih1 _ _ _ _ _ _ _ _ _ _ _ _)
      | (with_reducible exact ring_May.mono _ _ _ _ _ _ _ _ _)
      | (with_reducible exact ring_total.mono _ _ _ _ _)
      | (with_reducible exact ring_wait.mono _ _ _ _ _ _ _ _ _ _)
      | (with_reducible exact LeO.refl _)
      | (with_reducible exact LeO.none _)
      | (with_reducible refine LeO.ite ?_ ?_)
      | (with_reducible refine LeO.bind ?_ (fun _ => ?_))
      | exact ih0 _ _ _ _ _ _ _ _ _ _ _
      | exact ih1 _ _ _ _ _ _ _ _ _ _ _ _
      | exact ring_May.mono _ _ _ _ _ _ _ _ _
      | exact ring_total.mono _ _ _ _ _
      | exact ring_wait.mono _ _ _ _ _ _ _ _ _ _
      | exact LeO.none _
      | refine LeO.ite ?_ ?_
      | refine LeO.bind ?_ (fun _ => ?_)
def ring_Ask.T6 : Bool × List (List Nat × List Nat) := (true, [([], []), ([0], [0]), ([], []), ([1, 2], [1, 2]), ([], []), ([4], [4]), ([3, 5], [3, 5]), ([6, 1], [6])])
def ring_Ask.B6 : List Nat := [0, 1, 0, 7, 0, 16, 63, 127]
theorem ring_Ask.tab6 : rtab .any (opsOf Try.f10 6) = ring_Ask.T6 := by kernel_rfl
theorem ring_Ask.bits6 : waitsOk ring_Ask.T6.2 ring_Ask.B6 = true := by kernel_rfl
def ring_Ask.T8 : Bool × List (List Nat × List Nat) := (true, [([], []), ([0], [0]), ([], []), ([], []), ([3], [3]), ([2, 4], [2, 4]), ([], []), ([6], [6]), ([5, 7], [5, 7]), ([1, 8], [1, 8]), ([9], [9]), ([], []), ([10, 11], [10, 11]), ([1, 8, 0, 1, 2, 3, 4, 5, 6, 7, 8, 9, 10, 11, 12], [1, 8]), ([13, 12, 5, 0, 1, 2, 3, 4, 5, 6, 7, 8, 9, 10, 11, 12], [12, 13])])
def ring_Ask.B8 : List Nat := [0, 1, 0, 0, 8, 28, 0, 64, 252, 511, 1023, 0, 4095, 8191, 16383]
theorem ring_Ask.tab8 : rtab .any (opsOf Try.f10 8) = ring_Ask.T8 := by kernel_rfl
theorem ring_Ask.bits8 : waitsOk ring_Ask.T8.2 ring_Ask.B8 = true := by kernel_rfl
set_option maxHeartbeats 8000000 in
set_option maxRecDepth 100000 in
theorem ring_Ask.calls (k : Nat) (a0_0 : Int) (a0_1 : Int) (a0_2 : Int) (a0_3 : Int) (a1_0 : Int) (a1_1 : Int) (P1_2_ : Nat → Prop) (A1_2 : Option Addr) (c1_2 : Nat) (l1_2 : List Int) (P1_3_ : Nat → Prop) (A1_3 : Option Addr) (c1_3 : Nat) (l1_3 : List (S54)) (a2 : Int) (a3 : Int) (r1 : Int) (r2 : Int) (r3 : List Int) (r4 : List (S54)) (r5 : Bool) (r6 : Int) (r7 : Int) (r8 : Int) (w : World) (hs1_2 : Kd.V (Kd.int .i64) 3 w w.heap.size (fun k_ => P1_2_ k_) (.slice A1_2 l1_2.length c1_2) l1_2) (hs1_3 : Kd.V k54 54 w w.heap.size (fun k_ => P1_3_ k_) (.slice A1_3 l1_3.length c1_3) l1_3) (h : ring_Ask.f k a0_0 a0_1 a0_2 a0_3 a1_0 a1_1 l1_2 l1_3 a2 a3 = some (r1, r2, r3, r4, r5, r6, r7, r8)) :
  Calls Try.prog 10 #[.agg #[.int .i64 a0_0, .int .i64 a0_1, .int .i64 a0_2, .int .i64 a0_3], .agg #[.int .i64 a1_0, .int .i64 a1_1, .slice A1_2 l1_2.length c1_2, .slice A1_3 l1_3.length c1_3], .int .i64 a2, .int .i64 a3] w fun e w' => ∃ v2_ v3_ : Value, e = .returned (.tuple #[.agg #[.int .i64 r1, .int .i64 r2, v2_, v3_], .agg #[.bool r5, .int .i64 r6, .int .i64 r7, .int .i64 r8]]) ∧ Kd.V (Kd.int .i64) 3 w' w.heap.size (fun k_ => ((P1_2_ k_ ∨ P1_3_ k_) ∨ w.heap.size ≤ k_)) v2_ r3 ∧ Kd.V k54 54 w' w.heap.size (fun k_ => ((P1_2_ k_ ∨ P1_3_ k_) ∨ w.heap.size ≤ k_)) v3_ r4 ∧ Below w.heap.size w w' := by
 have hu23 := Try.underlying23
 have hu27 := Try.underlying27
 have hu32 := Try.underlying32
 have HO1_2 := Aside0.mk (show Kd.V (Kd.int .i64) 3 w w.heap.size (fun k_ => ((P1_2_ k_ ∨ P1_3_ k_) ∨ w.heap.size ≤ k_)) (.slice A1_2 l1_2.length c1_2) l1_2 from Kd.V_mono hs1_2 (fun k_ hk => .inl (.inl hk)))
 have HO1_3 := Aside0.mk (show Kd.V k54 54 w w.heap.size (fun k_ => ((P1_2_ k_ ∨ P1_3_ k_) ∨ w.heap.size ≤ k_)) (.slice A1_3 l1_3.length c1_3) l1_3 from Kd.V_mono hs1_3 (fun k_ hk => .inl (.inr hk)))
 have HB := Aside0.mk (Below.refl w.heap.size w)
 have H : ((ring_May.f k a0_0 a0_1 a0_2 a0_3 a1_0 a1_1 l1_2 l1_3).bind fun t129 => (if t129 = true then ((ring_time.f a2).bind fun t130 => (if t130 = true then ((policy_Weighs.f a3).bind fun t131 => (ring_Ask.j0 k a2 a3 (!t131) a0_0 a0_1 a0_2 a0_3 a1_0 a1_1 l1_2 l1_3)) else (ring_Ask.j0 k a2 a3 true a0_0 a0_1 a0_2 a0_3 a1_0 a1_1 l1_2 l1_3))) else (ring_Ask.j0 k a2 a3 true a0_0 a0_1 a0_2 a0_3 a1_0 a1_1 l1_2 l1_3))) = some (r1, r2, r3, r4, r5, r6, r7, r8) := h
 clear h
 have HC5 := Aside0.mk H
 clear H
 go_enter Try.func10, Try.ntmps10
 go_upto_region 1 with (first | ((with_reducible refine gate_dst (N := 4) rfl ?_); refine box_event ?hg (N := 4) ?hd (cs := #[.int .i64 a0_0, .int .i64 a0_1, .int .i64 a0_2, .int .i64 a0_3]) (t := 23) ?hr ?_; (case hd => rfl); (case hg => rfl); (case hr => first | (go_simp; done) | (go_simp; rfl)); intro gb125 hg w6 hbox hb; have BK125 := Aside0.mk (hbox); have GW125 := Aside0.mk ((by rw [hg]; exact (below_size (bl HB)) : w.heap.size ≤ gb125)); have GE125 := Aside0.mk ((by rw [hg]; exact (below_size (bl HB)) : w.heap.size ≤ gb125)); replace HO1_2 := ve HO1_2 hg hb; replace HO1_3 := ve HO1_3 hg hb; replace HB := Aside0.mk (below_step (bl HB) hb); clear hb hbox hg) | ((with_reducible refine gate_dst (N := 5) rfl ?_); refine box_event ?hg (N := 5) ?hd (cs := #[.int .i64 a1_0, .int .i64 a1_1, .slice A1_2 l1_2.length c1_2, .slice A1_3 l1_3.length c1_3]) (t := 27) ?hr ?_; (case hd => rfl); (case hg => rfl); (case hr => first | (go_simp; done) | (go_simp; rfl)); intro gb126 hg w7 hbox hb; have BK126 := Aside0.mk (hbox); have GW126 := Aside0.mk ((by rw [hg]; exact (below_size (bl HB)) : w.heap.size ≤ gb126)); have GE126 := Aside0.mk ((by rw [hg]; exact (below_size (bl HB)) : w.heap.size ≤ gb126)); have NB125_126 := nb BK125 hg; have NB126_125 := bn BK125 hg; replace HO1_2 := ve HO1_2 hg hb; replace HO1_3 := ve HO1_3 hg hb; replace BK125 := Aside0.mk (blk_below (bo BK125) hb); replace HB := Aside0.mk (below_step (bl HB) hb); clear hb hbox hg) | ((with_reducible refine gate_dst (N := 8) rfl ?_); refine box_event ?hg (N := 8) ?hd (cs := #[.int .i64 0, .int .i64 0, .slice none 0 0, .slice none 0 0]) (t := 27) ?hr ?_; (case hd => rfl); (case hg => rfl); (case hr => first | (go_simp; done) | (go_simp; rfl)); intro gb127 hg w8 hbox hb; have BK127 := Aside0.mk (hbox); have GW127 := Aside0.mk ((by rw [hg]; exact (below_size (bl HB)) : w.heap.size ≤ gb127)); have GE127 := Aside0.mk ((by rw [hg]; exact (below_size (bl HB)) : w.heap.size ≤ gb127)); have NB125_127 := nb BK125 hg; have NB127_125 := bn BK125 hg; have NB126_127 := nb BK126 hg; have NB127_126 := bn BK126 hg; replace HO1_2 := ve HO1_2 hg hb; replace HO1_3 := ve HO1_3 hg hb; replace BK125 := Aside0.mk (blk_below (bo BK125) hb); replace BK126 := Aside0.mk (blk_below (bo BK126) hb); replace HB := Aside0.mk (below_step (bl HB) hb); clear hb hbox hg) | ((with_reducible refine gate_dst (N := 9) rfl ?_); refine box_event ?hg (N := 9) ?hd (cs := #[.bool false, .int .i64 0, .int .i64 0, .int .i64 0]) (t := 32) ?hr ?_; (case hd => rfl); (case hg => rfl); (case hr => first | (go_simp; done) | (go_simp; rfl)); intro gb128 hg w9 hbox hb; have BK128 := Aside0.mk (hbox); have GW128 := Aside0.mk ((by rw [hg]; exact (below_size (bl HB)) : w.heap.size ≤ gb128)); have GE128 := Aside0.mk ((by rw [hg]; exact (below_size (bl HB)) : w.heap.size ≤ gb128)); have NB125_128 := nb BK125 hg; have NB128_125 := bn BK125 hg; have NB126_128 := nb BK126 hg; have NB128_126 := bn BK126 hg; have NB127_128 := nb BK127 hg; have NB128_127 := bn BK127 hg; replace HO1_2 := ve HO1_2 hg hb; replace HO1_3 := ve HO1_3 hg hb; replace BK125 := Aside0.mk (blk_below (bo BK125) hb); replace BK126 := Aside0.mk (blk_below (bo BK126) hb); replace BK127 := Aside0.mk (blk_below (bo BK127) hb); replace HB := Aside0.mk (below_step (bl HB) hb); clear hb hbox hg))
 (try simp only [Act.put, List.setIfInBounds_toArray, List.set_cons_zero, List.set_cons_succ])
 go_cut [24] (fun v24 wc => ∃ (kq : Nat) (x24_4 : Bool), v24 = .bool x24_4 ∧ Aside0 (ring_Ask.j0 kq a2 a3 x24_4 a0_0 a0_1 a0_2 a0_3 a1_0 a1_1 l1_2 l1_3 = some (r1, r2, r3, r4, r5, r6, r7, r8)) ∧ Aside0 (kq ≤ k) ∧ Aside0 (Kd.V (Kd.int .i64) 3 wc w.heap.size (fun k_ => ((P1_2_ k_ ∨ P1_3_ k_) ∨ w.heap.size ≤ k_) ∧ k_ ≠ gb125 ∧ k_ ≠ gb126 ∧ k_ ≠ gb127 ∧ k_ ≠ gb128) (.slice A1_2 l1_2.length c1_2) l1_2) ∧ Aside0 (Kd.V k54 54 wc w.heap.size (fun k_ => ((P1_2_ k_ ∨ P1_3_ k_) ∨ w.heap.size ≤ k_) ∧ k_ ≠ gb125 ∧ k_ ≠ gb126 ∧ k_ ≠ gb127 ∧ k_ ≠ gb128) (.slice A1_3 l1_3.length c1_3) l1_3) ∧ Aside0 (wc.heap[gb125]? = some (.cells #[.int .i64 a0_0, .int .i64 a0_1, .int .i64 a0_2, .int .i64 a0_3] 23 (0, 0))) ∧ Aside0 (wc.heap[gb126]? = some (.cells #[.int .i64 a1_0, .int .i64 a1_1, (.slice A1_2 l1_2.length c1_2), (.slice A1_3 l1_3.length c1_3)] 27 (0, 0))) ∧ Aside0 (wc.heap[gb127]? = some (.cells #[.int .i64 0, .int .i64 0, (.slice none 0 0), (.slice none 0 0)] 27 (0, 0))) ∧ Aside0 (wc.heap[gb128]? = some (.cells #[.bool false, .int .i64 0, .int .i64 0, .int .i64 0] 32 (0, 0))) ∧ Aside0 (Below w.heap.size w wc))
 case first =>
  have H := HC5.out
  clear HC5
  replace H := Option.bind_eq_some_iff.mp H
  obtain ⟨t129, A100, H⟩ := H
  have A10 := Aside0.mk A100
  clear A100
  by_cases c11 : t129 = true
  ·subst c11
   rw [if_pos rfl] at H
   replace H := Option.bind_eq_some_iff.mp H
   obtain ⟨t130, A120, H⟩ := H
   have A12 := Aside0.mk A120
   clear A120
   by_cases c13 : t130 = true
   ·subst c13
    rw [if_pos rfl] at H
    replace H := Option.bind_eq_some_iff.mp H
    obtain ⟨t131, A140, H⟩ := H
    have A14 := Aside0.mk A140
    clear A140
    have H' := Aside0.mk H
    clear H
    have hnb15 := NB125_126.out
    have hnc15 := NB126_125.out
    have hnb16 := NB125_127.out
    have hnc16 := NB127_125.out
    have hnb17 := NB125_128.out
    have hnc17 := NB128_125.out
    obtain ⟨hcz18_0, hcz18_1, hcz18_2, hcz18_3⟩ := ce4 BK125
    obtain ⟨hfz18_0, hfz18_1, hfz18_2, hfz18_3⟩ := fr4 BK125
    have hnb19 := NB126_127.out
    have hnc19 := NB127_126.out
    have hnb20 := NB126_128.out
    have hnc20 := NB128_126.out
    obtain ⟨hcz21_0, hcz21_1, hcz21_2, hcz21_3⟩ := ce4 BK126
    obtain ⟨hfz21_0, hfz21_1, hfz21_2, hfz21_3⟩ := fr4 BK126
    go_wp2_with (first | ((with_reducible refine gate_callee (f := 13) rfl ?_); refine goesL_ (some 13) rfl rfl Try.func13 (by kernel_rfl) rfl #[.agg #[.int .i64 a0_0, .int .i64 a0_1, .int .i64 a0_2, .int .i64 a0_3], .agg #[.int .i64 a1_0, .int .i64 a1_1, .slice A1_2 l1_2.length c1_2, .slice A1_3 l1_3.length c1_3]] rfl (by (try simp only [List.map_toArray, List.map_cons, List.map_nil]); first | done | rfl | (simp only [List.length_drop, List.length_take]; rfl)) ?_; (with_reducible refine (ring_May.calls k a0_0 a0_1 a0_2 a0_3 a1_0 a1_1 _ _ l1_2 _ _ l1_3 true _ ?side1 ?side2 ?side3 ?side4 A10.out).mono ?_); (case side1 => repeat (first | exact (Kd.V_reads' HO1_2.out).2.2 | (with_reducible refine Kd.C_alloc ?_ _) | (with_reducible refine Kd.C_drewN ?_ _) | (with_reducible refine Kd.C_drew ?_))); (case side2 => exact (Kd.V_reads' HO1_2.out).2.1); (case side3 => repeat (first | exact (Kd.V_reads' HO1_3.out).2.2 | (with_reducible refine Kd.C_alloc ?_ _) | (with_reducible refine Kd.C_drewN ?_ _) | (with_reducible refine Kd.C_drew ?_))); (case side4 => exact (Kd.V_reads' HO1_3.out).2.1); rintro e w22 ⟨rfl, hb⟩; refine ⟨_, rfl, ?_⟩; replace HO1_2 := vb HO1_2 hb; replace HO1_3 := vb HO1_3 hb; replace BK125 := Aside0.mk (blk_below (bo BK125) hb); replace BK126 := Aside0.mk (blk_below (bo BK126) hb); replace BK127 := Aside0.mk (blk_below (bo BK127) hb); replace BK128 := Aside0.mk (blk_below (bo BK128) hb); replace HB := Aside0.mk (below_step (bl HB) hb); (try clear hb); (try clear hb2); (try clear hk); (try clear hi)) | (go_at_call 21; (with_reducible refine (ring_time.calls a2 true _ A12.out).mono ?_); rintro e w' ⟨rfl, ⟨nd, rfl⟩⟩) | (go_at_call 22; (with_reducible refine (policy_Weighs.calls a3 t131 _ A14.out).mono ?_); rintro e w' ⟨rfl, ⟨nd, rfl⟩⟩))
    go_meet
    case rel => exact ⟨_, (!t131), (by first | (with_reducible rfl) | rfl | (simp; done) | (simp [*]; done)), H', ⟨by first | omega | exact Nat.le_refl _⟩, ⟨by (with_reducible repeat (first | apply Kd.V_alloc | apply Kd.V_drewN | apply Kd.V_drew)); exact Kd.V_mono HO1_2.out (fun _ hk => ⟨hk.1.1.1.1, ⟨hk.1.1.1.2, ⟨hk.1.1.2, ⟨hk.1.2, hk.2⟩⟩⟩⟩)⟩, ⟨by (with_reducible repeat (first | apply Kd.V_alloc | apply Kd.V_drewN | apply Kd.V_drew)); exact Kd.V_mono HO1_3.out (fun _ hk => ⟨hk.1.1.1.1, ⟨hk.1.1.1.2, ⟨hk.1.1.2, ⟨hk.1.2, hk.2⟩⟩⟩⟩)⟩, ⟨bo BK125⟩, ⟨bo BK126⟩, ⟨bo BK127⟩, ⟨bo BK128⟩, ⟨bl HB⟩⟩
   ·replace c13 := Bool.eq_false_iff.mpr c13
    subst c13
    rw [if_neg (show ¬ (false = true) by decide)] at H
    have H' := Aside0.mk H
    clear H
    have hnb23 := NB125_126.out
    have hnc23 := NB126_125.out
    have hnb24 := NB125_127.out
    have hnc24 := NB127_125.out
    have hnb25 := NB125_128.out
    have hnc25 := NB128_125.out
    obtain ⟨hcz26_0, hcz26_1, hcz26_2, hcz26_3⟩ := ce4 BK125
    obtain ⟨hfz26_0, hfz26_1, hfz26_2, hfz26_3⟩ := fr4 BK125
    have hnb27 := NB126_127.out
    have hnc27 := NB127_126.out
    have hnb28 := NB126_128.out
    have hnc28 := NB128_126.out
    obtain ⟨hcz29_0, hcz29_1, hcz29_2, hcz29_3⟩ := ce4 BK126
    obtain ⟨hfz29_0, hfz29_1, hfz29_2, hfz29_3⟩ := fr4 BK126
    go_wp2_with (first | ((with_reducible refine gate_callee (f := 13) rfl ?_); refine goesL_ (some 13) rfl rfl Try.func13 (by kernel_rfl) rfl #[.agg #[.int .i64 a0_0, .int .i64 a0_1, .int .i64 a0_2, .int .i64 a0_3], .agg #[.int .i64 a1_0, .int .i64 a1_1, .slice A1_2 l1_2.length c1_2, .slice A1_3 l1_3.length c1_3]] rfl (by (try simp only [List.map_toArray, List.map_cons, List.map_nil]); first | done | rfl | (simp only [List.length_drop, List.length_take]; rfl)) ?_; (with_reducible refine (ring_May.calls k a0_0 a0_1 a0_2 a0_3 a1_0 a1_1 _ _ l1_2 _ _ l1_3 true _ ?side1 ?side2 ?side3 ?side4 A10.out).mono ?_); (case side1 => repeat (first | exact (Kd.V_reads' HO1_2.out).2.2 | (with_reducible refine Kd.C_alloc ?_ _) | (with_reducible refine Kd.C_drewN ?_ _) | (with_reducible refine Kd.C_drew ?_))); (case side2 => exact (Kd.V_reads' HO1_2.out).2.1); (case side3 => repeat (first | exact (Kd.V_reads' HO1_3.out).2.2 | (with_reducible refine Kd.C_alloc ?_ _) | (with_reducible refine Kd.C_drewN ?_ _) | (with_reducible refine Kd.C_drew ?_))); (case side4 => exact (Kd.V_reads' HO1_3.out).2.1); rintro e w30 ⟨rfl, hb⟩; refine ⟨_, rfl, ?_⟩; replace HO1_2 := vb HO1_2 hb; replace HO1_3 := vb HO1_3 hb; replace BK125 := Aside0.mk (blk_below (bo BK125) hb); replace BK126 := Aside0.mk (blk_below (bo BK126) hb); replace BK127 := Aside0.mk (blk_below (bo BK127) hb); replace BK128 := Aside0.mk (blk_below (bo BK128) hb); replace HB := Aside0.mk (below_step (bl HB) hb); (try clear hb); (try clear hb2); (try clear hk); (try clear hi)) | (go_at_call 21; (with_reducible refine (ring_time.calls a2 false _ A12.out).mono ?_); rintro e w' ⟨rfl, ⟨nd, rfl⟩⟩))
    go_meet
    case rel => exact ⟨_, (true), (by first | (with_reducible rfl) | rfl | (simp; done) | (simp [*]; done)), H', ⟨by first | omega | exact Nat.le_refl _⟩, ⟨by (with_reducible repeat (first | apply Kd.V_alloc | apply Kd.V_drewN | apply Kd.V_drew)); exact Kd.V_mono HO1_2.out (fun _ hk => ⟨hk.1.1.1.1, ⟨hk.1.1.1.2, ⟨hk.1.1.2, ⟨hk.1.2, hk.2⟩⟩⟩⟩)⟩, ⟨by (with_reducible repeat (first | apply Kd.V_alloc | apply Kd.V_drewN | apply Kd.V_drew)); exact Kd.V_mono HO1_3.out (fun _ hk => ⟨hk.1.1.1.1, ⟨hk.1.1.1.2, ⟨hk.1.1.2, ⟨hk.1.2, hk.2⟩⟩⟩⟩)⟩, ⟨bo BK125⟩, ⟨bo BK126⟩, ⟨bo BK127⟩, ⟨bo BK128⟩, ⟨bl HB⟩⟩
  ·replace c11 := Bool.eq_false_iff.mpr c11
   subst c11
   rw [if_neg (show ¬ (false = true) by decide)] at H
   have H' := Aside0.mk H
   clear H
   have hnb31 := NB125_126.out
   have hnc31 := NB126_125.out
   have hnb32 := NB125_127.out
   have hnc32 := NB127_125.out
   have hnb33 := NB125_128.out
   have hnc33 := NB128_125.out
   obtain ⟨hcz34_0, hcz34_1, hcz34_2, hcz34_3⟩ := ce4 BK125
   obtain ⟨hfz34_0, hfz34_1, hfz34_2, hfz34_3⟩ := fr4 BK125
   have hnb35 := NB126_127.out
   have hnc35 := NB127_126.out
   have hnb36 := NB126_128.out
   have hnc36 := NB128_126.out
   obtain ⟨hcz37_0, hcz37_1, hcz37_2, hcz37_3⟩ := ce4 BK126
   obtain ⟨hfz37_0, hfz37_1, hfz37_2, hfz37_3⟩ := fr4 BK126
   go_wp2_with (first | ((with_reducible refine gate_callee (f := 13) rfl ?_); refine goesL_ (some 13) rfl rfl Try.func13 (by kernel_rfl) rfl #[.agg #[.int .i64 a0_0, .int .i64 a0_1, .int .i64 a0_2, .int .i64 a0_3], .agg #[.int .i64 a1_0, .int .i64 a1_1, .slice A1_2 l1_2.length c1_2, .slice A1_3 l1_3.length c1_3]] rfl (by (try simp only [List.map_toArray, List.map_cons, List.map_nil]); first | done | rfl | (simp only [List.length_drop, List.length_take]; rfl)) ?_; (with_reducible refine (ring_May.calls k a0_0 a0_1 a0_2 a0_3 a1_0 a1_1 _ _ l1_2 _ _ l1_3 false _ ?side1 ?side2 ?side3 ?side4 A10.out).mono ?_); (case side1 => repeat (first | exact (Kd.V_reads' HO1_2.out).2.2 | (with_reducible refine Kd.C_alloc ?_ _) | (with_reducible refine Kd.C_drewN ?_ _) | (with_reducible refine Kd.C_drew ?_))); (case side2 => exact (Kd.V_reads' HO1_2.out).2.1); (case side3 => repeat (first | exact (Kd.V_reads' HO1_3.out).2.2 | (with_reducible refine Kd.C_alloc ?_ _) | (with_reducible refine Kd.C_drewN ?_ _) | (with_reducible refine Kd.C_drew ?_))); (case side4 => exact (Kd.V_reads' HO1_3.out).2.1); rintro e w38 ⟨rfl, hb⟩; refine ⟨_, rfl, ?_⟩; replace HO1_2 := vb HO1_2 hb; replace HO1_3 := vb HO1_3 hb; replace BK125 := Aside0.mk (blk_below (bo BK125) hb); replace BK126 := Aside0.mk (blk_below (bo BK126) hb); replace BK127 := Aside0.mk (blk_below (bo BK127) hb); replace BK128 := Aside0.mk (blk_below (bo BK128) hb); replace HB := Aside0.mk (below_step (bl HB) hb); (try clear hb); (try clear hb2); (try clear hk); (try clear hi)))
   go_meet
   case rel => exact ⟨_, (true), (by first | (with_reducible rfl) | rfl | (simp; done) | (simp [*]; done)), H', ⟨by first | omega | exact Nat.le_refl _⟩, ⟨by (with_reducible repeat (first | apply Kd.V_alloc | apply Kd.V_drewN | apply Kd.V_drew)); exact Kd.V_mono HO1_2.out (fun _ hk => ⟨hk.1.1.1.1, ⟨hk.1.1.1.2, ⟨hk.1.1.2, ⟨hk.1.2, hk.2⟩⟩⟩⟩)⟩, ⟨by (with_reducible repeat (first | apply Kd.V_alloc | apply Kd.V_drewN | apply Kd.V_drew)); exact Kd.V_mono HO1_3.out (fun _ hk => ⟨hk.1.1.1.1, ⟨hk.1.1.1.2, ⟨hk.1.1.2, ⟨hk.1.2, hk.2⟩⟩⟩⟩)⟩, ⟨bo BK125⟩, ⟨bo BK126⟩, ⟨bo BK127⟩, ⟨bo BK128⟩, ⟨bl HB⟩⟩
 case rest =>
  clear HC5
  try clear c11; try clear c13; try clear hcz18_0; try clear hcz18_1; try clear hcz18_2; try clear hcz18_3; try clear hcz21_0; try clear hcz21_1; try clear hcz21_2; try clear hcz21_3; try clear hcz26_0; try clear hcz26_1; try clear hcz26_2; try clear hcz26_3; try clear hcz29_0; try clear hcz29_1; try clear hcz29_2; try clear hcz29_3; try clear hcz34_0; try clear hcz34_1; try clear hcz34_2; try clear hcz34_3; try clear hcz37_0; try clear hcz37_1; try clear hcz37_2; try clear hcz37_3; try clear hfz18_0; try clear hfz18_1; try clear hfz18_2; try clear hfz18_3; try clear hfz21_0; try clear hfz21_1; try clear hfz21_2; try clear hfz21_3; try clear hfz26_0; try clear hfz26_1; try clear hfz26_2; try clear hfz26_3; try clear hfz29_0; try clear hfz29_1; try clear hfz29_2; try clear hfz29_3; try clear hfz34_0; try clear hfz34_1; try clear hfz34_2; try clear hfz34_3; try clear hfz37_0; try clear hfz37_1; try clear hfz37_2; try clear hfz37_3
  obtain ⟨kq, x24_4, rfl, HA, HJ4, HO_127002, HO_127003, BK125, BK126, BK127, BK128, HB⟩ := hcut
  cases kq with
  | zero => exact absurd HA.out (by simp [ring_Ask.j0])
  | succ kj4 =>
   have H := HA.out
   clear HA
   simp only [ring_Ask.j0] at H
   by_cases c39 : x24_4 = true
   ·subst c39
    rw [if_pos rfl] at H
    simp only [Option.some.injEq, Prod.mk.injEq] at H
    obtain ⟨rfl, rfl, rfl, rfl, rfl, rfl, rfl, rfl⟩ := H
    have hnb40 := NB126_125.out
    have hnc40 := NB125_126.out
    have hnb41 := NB126_127.out
    have hnc41 := NB127_126.out
    have hnb42 := NB126_128.out
    have hnc42 := NB128_126.out
    obtain ⟨hcz43_0, hcz43_1, hcz43_2, hcz43_3⟩ := ce4 BK126
    obtain ⟨hfz43_0, hfz43_1, hfz43_2, hfz43_3⟩ := fr4 BK126
    have hnb44 := NB127_125.out
    have hnc44 := NB125_127.out
    have hnb45 := NB127_128.out
    have hnc45 := NB128_127.out
    obtain ⟨hcz46_0, hcz46_1, hcz46_2, hcz46_3⟩ := ce4 BK127
    obtain ⟨hfz46_0, hfz46_1, hfz46_2, hfz46_3⟩ := fr4 BK127
    have hnb47 := NB128_125.out
    have hnc47 := NB125_128.out
    obtain ⟨hcz48_0, hcz48_1, hcz48_2, hcz48_3⟩ := ce4 BK128
    obtain ⟨hfz48_0, hfz48_1, hfz48_2, hfz48_3⟩ := fr4 BK128
    go_wp2
    refine bodyPost_ret (results_cc rfl _ _ gb127 gb128 27 32 #[.int .i64 a1_0, .int .i64 a1_1, .slice A1_2 l1_2.length c1_2, .slice A1_3 l1_3.length c1_3] #[.bool false, .int .i64 0, .int .i64 0, .int .i64 0] (0, 0) (0, 0) _ _ rfl (by (with_reducible repeat (first | refine blk_drewN ?_ _ | refine blk_drew ?_ | refine blk_alloc ?_ _)); refine blk_far ?_ NB127_128.out _; (with_reducible repeat (first | refine blk_drewN ?_ _ | refine blk_drew ?_ | refine blk_alloc ?_ _)); refine blk_far ?_ NB127_128.out _; (with_reducible repeat (first | refine blk_drewN ?_ _ | refine blk_drew ?_ | refine blk_alloc ?_ _)); refine blk_far ?_ NB127_128.out _; (with_reducible repeat (first | refine blk_drewN ?_ _ | refine blk_drew ?_ | refine blk_alloc ?_ _)); refine blk_far ?_ NB127_128.out _; (with_reducible repeat (first | refine blk_drewN ?_ _ | refine blk_drew ?_ | refine blk_alloc ?_ _)); refine blk_put (cs := #[.int .i64 a1_0, .int .i64 a1_1, .slice A1_2 l1_2.length c1_2, .slice none 0 0]) ?_ 3 _ rfl; (with_reducible repeat (first | refine blk_drewN ?_ _ | refine blk_drew ?_ | refine blk_alloc ?_ _)); refine blk_put (cs := #[.int .i64 a1_0, .int .i64 a1_1, .slice none 0 0, .slice none 0 0]) ?_ 2 _ rfl; (with_reducible repeat (first | refine blk_drewN ?_ _ | refine blk_drew ?_ | refine blk_alloc ?_ _)); refine blk_put (cs := #[.int .i64 a1_0, .int .i64 0, .slice none 0 0, .slice none 0 0]) ?_ 1 _ rfl; (with_reducible repeat (first | refine blk_drewN ?_ _ | refine blk_drew ?_ | refine blk_alloc ?_ _)); refine blk_put (cs := #[.int .i64 0, .int .i64 0, .slice none 0 0, .slice none 0 0]) ?_ 0 _ rfl; (with_reducible repeat (first | refine blk_drewN ?_ _ | refine blk_drew ?_ | refine blk_alloc ?_ _)); exact BK127.out) Try.underlying27 rfl (by kernel_rfl) rfl (by (with_reducible repeat (first | refine blk_drewN ?_ _ | refine blk_drew ?_ | refine blk_alloc ?_ _)); refine blk_put (cs := #[.bool false, .int .i64 0, .int .i64 0, .int .i64 0]) ?_ 3 _ rfl; (with_reducible repeat (first | refine blk_drewN ?_ _ | refine blk_drew ?_ | refine blk_alloc ?_ _)); refine blk_put (cs := #[.bool false, .int .i64 0, .int .i64 0, .int .i64 0]) ?_ 2 _ rfl; (with_reducible repeat (first | refine blk_drewN ?_ _ | refine blk_drew ?_ | refine blk_alloc ?_ _)); refine blk_put (cs := #[.bool false, .int .i64 0, .int .i64 0, .int .i64 0]) ?_ 1 _ rfl; (with_reducible repeat (first | refine blk_drewN ?_ _ | refine blk_drew ?_ | refine blk_alloc ?_ _)); refine blk_put (cs := #[.bool false, .int .i64 0, .int .i64 0, .int .i64 0]) ?_ 0 _ rfl; (with_reducible repeat (first | refine blk_drewN ?_ _ | refine blk_drew ?_ | refine blk_alloc ?_ _)); refine blk_far ?_ NB128_127.out _; (with_reducible repeat (first | refine blk_drewN ?_ _ | refine blk_drew ?_ | refine blk_alloc ?_ _)); refine blk_far ?_ NB128_127.out _; (with_reducible repeat (first | refine blk_drewN ?_ _ | refine blk_drew ?_ | refine blk_alloc ?_ _)); refine blk_far ?_ NB128_127.out _; (with_reducible repeat (first | refine blk_drewN ?_ _ | refine blk_drew ?_ | refine blk_alloc ?_ _)); refine blk_far ?_ NB128_127.out _; (with_reducible repeat (first | refine blk_drewN ?_ _ | refine blk_drew ?_ | refine blk_alloc ?_ _)); exact BK128.out) Try.underlying32 rfl (by kernel_rfl)) rfl ?_
    exact ⟨_, _, by first | (with_reducible rfl) | rfl | (simp [errW_none, errW_some] <;> rfl) | (simp [*, errW_none, errW_some] <;> rfl), by (with_reducible repeat (first | apply Kd.V_alloc | apply Kd.V_drewN | apply Kd.V_drew)); exact Kd.V_mono (Kd.V_far (p := ⟨gb128, 3, none⟩) (Kd.V_far (p := ⟨gb128, 2, none⟩) (Kd.V_far (p := ⟨gb128, 1, none⟩) (Kd.V_far (p := ⟨gb128, 0, none⟩) (Kd.V_far (p := ⟨gb127, 3, none⟩) (Kd.V_far (p := ⟨gb127, 2, none⟩) (Kd.V_far (p := ⟨gb127, 1, none⟩) (Kd.V_far (p := ⟨gb127, 0, none⟩) (Kd.V_mono (Kd.V_mono HO_127002.out (fun k_ hk => (⟨hk, hk.2.2.2.1⟩ : _ ∧ k_ ≠ gb127))) (fun k_ hk => (⟨hk, hk.1.2.2.2.2⟩ : _ ∧ k_ ≠ gb128))) (fun _ hk => hk.1.2) (.int .i64 a1_0)) (fun _ hk => hk.1.2) (.int .i64 a1_1)) (fun _ hk => hk.1.2) (.slice A1_2 l1_2.length c1_2)) (fun _ hk => hk.1.2) (.slice A1_3 l1_3.length c1_3)) (fun _ hk => hk.2) (.bool false)) (fun _ hk => hk.2) (.int .i64 0)) (fun _ hk => hk.2) (.int .i64 0)) (fun _ hk => hk.2) (.int .i64 0)) (fun _ hk => hk.1.1.1), by (with_reducible repeat (first | apply Kd.V_alloc | apply Kd.V_drewN | apply Kd.V_drew)); exact Kd.V_mono (Kd.V_far (p := ⟨gb128, 3, none⟩) (Kd.V_far (p := ⟨gb128, 2, none⟩) (Kd.V_far (p := ⟨gb128, 1, none⟩) (Kd.V_far (p := ⟨gb128, 0, none⟩) (Kd.V_far (p := ⟨gb127, 3, none⟩) (Kd.V_far (p := ⟨gb127, 2, none⟩) (Kd.V_far (p := ⟨gb127, 1, none⟩) (Kd.V_far (p := ⟨gb127, 0, none⟩) (Kd.V_mono (Kd.V_mono HO_127003.out (fun k_ hk => (⟨hk, hk.2.2.2.1⟩ : _ ∧ k_ ≠ gb127))) (fun k_ hk => (⟨hk, hk.1.2.2.2.2⟩ : _ ∧ k_ ≠ gb128))) (fun _ hk => hk.1.2) (.int .i64 a1_0)) (fun _ hk => hk.1.2) (.int .i64 a1_1)) (fun _ hk => hk.1.2) (.slice A1_2 l1_2.length c1_2)) (fun _ hk => hk.1.2) (.slice A1_3 l1_3.length c1_3)) (fun _ hk => hk.2) (.bool false)) (fun _ hk => hk.2) (.int .i64 0)) (fun _ hk => hk.2) (.int .i64 0)) (fun _ hk => hk.2) (.int .i64 0)) (fun _ hk => hk.1.1.1), bl HB⟩
   ·replace c39 := Bool.eq_false_iff.mpr c39
    subst c39
    rw [if_neg (show ¬ (false = true) by decide)] at H
    obtain ⟨ji49, hji49⟩ : ∃ j_ : Int, (mx a2 a1_0) = j_ := ⟨_, rfl⟩
    replace H : ((ring_at.f a0_0 a0_1 a0_2 a0_3 a1_0 a1_1 l1_2 l1_3 (ji49)).bind fun bt132 => ((ring_total.f kj4 bt132.1 bt132.2.1 bt132.2.2.1 bt132.2.2.2).bind fun t141 => (if (wrap64 (t141 + a3)) ≤ a0_1 then ((ring_number.f a0_0 a0_1 a0_2 a0_3 bt132.1).bind fun t142 => (if a0_3 = 0 then (none) else (if 0 ≤ (Int.tmod t142 a0_3) then (if (Int.tmod t142 a0_3) < (bt132.2.2.1.length : Int) then (ring_Ask.j1 kj4 a0_0 a0_1 a0_2 a0_3 bt132.1 bt132.2.1 (bt132.2.2.1.set ((Int.tmod t142 a0_3) : Int).toNat (wrap64 ((rd bt132.2.2.1 (Int.tmod t142 a0_3)) + a3))) bt132.2.2.2 true 0 0 0) else (none)) else (none)))) else (if a3 > a0_1 then (ring_Ask.j1 kj4 a0_0 a0_1 a0_2 a0_3 bt132.1 bt132.2.1 bt132.2.2.1 bt132.2.2.2 false 0 2199023255552 0) else ((ring_wait.f kj4 a0_0 a0_1 a0_2 a0_3 bt132.1 bt132.2.1 bt132.2.2.1 bt132.2.2.2 (wrap64 (a0_1 - a3))).bind fun t145 => (ring_Ask.j1 kj4 a0_0 a0_1 a0_2 a0_3 bt132.1 bt132.2.1 bt132.2.2.1 bt132.2.2.2 false 0 t145 0)))))) = some (r1, r2, r3, r4, r5, r6, r7, r8) := by first | (rw [hji49] at H; exact H) | (simp only [hji49] at H ⊢; exact H)
    have hji49_ : (if a2 < a1_0 then a1_0 else a2) = ji49 := hji49
    replace H := Option.bind_eq_some_iff.mp H
    obtain ⟨⟨t132, t133, t134, t137⟩, A500, H⟩ := H
    have A50 := Aside0.mk A500
    clear A500
    have HC51 := Aside0.mk H
    clear H
    have hnb52 := NB125_126.out
    have hnc52 := NB126_125.out
    have hnb53 := NB125_127.out
    have hnc53 := NB127_125.out
    have hnb54 := NB125_128.out
    have hnc54 := NB128_125.out
    obtain ⟨hcz55_0, hcz55_1, hcz55_2, hcz55_3⟩ := ce4 BK125
    obtain ⟨hfz55_0, hfz55_1, hfz55_2, hfz55_3⟩ := fr4 BK125
    have hnb56 := NB126_127.out
    have hnc56 := NB127_126.out
    have hnb57 := NB126_128.out
    have hnc57 := NB128_126.out
    obtain ⟨hcz58_0, hcz58_1, hcz58_2, hcz58_3⟩ := ce4 BK126
    obtain ⟨hfz58_0, hfz58_1, hfz58_2, hfz58_3⟩ := fr4 BK126
    go_upto_block 0 with (first | ((with_reducible refine gate_callee (f := 23) rfl ?_); refine goesL_ (some 33) rfl rfl Try.func23 (by kernel_rfl) rfl #[.agg #[.int .i64 a0_0, .int .i64 a0_1, .int .i64 a0_2, .int .i64 a0_3], .agg #[.int .i64 a1_0, .int .i64 a1_1, .slice A1_2 l1_2.length c1_2, .slice A1_3 l1_3.length c1_3], .int .i64 ji49] rfl (by (try simp only [List.map_toArray, List.map_cons, List.map_nil]); first | done | (simp only [hji49]; rfl) | rfl | (simp only [List.length_drop, List.length_take]; rfl)) ?_; (with_reducible refine (ring_at.calls a0_0 a0_1 a0_2 a0_3 a1_0 a1_1 _ _ l1_2 _ _ l1_3 ji49 t132 t133 t134 t137 _ ?side1 ?side2 ?side3 ?side4 A50.out).mono ?_); (case side1 => repeat (first | exact (Kd.V_reads' HO_127002.out).2.2 | (with_reducible refine Kd.C_alloc ?_ _) | (with_reducible refine Kd.C_drewN ?_ _) | (with_reducible refine Kd.C_drew ?_))); (case side2 => exact (Kd.V_reads' HO_127002.out).2.1); (case side3 => repeat (first | exact (Kd.V_reads' HO_127003.out).2.2 | (with_reducible refine Kd.C_alloc ?_ _) | (with_reducible refine Kd.C_drewN ?_ _) | (with_reducible refine Kd.C_drew ?_))); (case side4 => exact (Kd.V_reads' HO_127003.out).2.1); rintro e w59 ⟨v135, v138, rfl, ho0, ho1, hb⟩; refine ⟨_, rfl, ?_⟩; have HO136 := Aside0.mk (Kd.R_lower (Kd.R_newM (M := fun k_ => (w.heap.size ≤ k_)) ho0 (below_size (bl HB)) (fun k_ h_ => h_)) (below_size (bl HB))); have HO139 := Aside0.mk (Kd.R_lower (Kd.R_newM (M := fun k_ => (w.heap.size ≤ k_)) ho1 (below_size (bl HB)) (fun k_ h_ => h_)) (below_size (bl HB))); replace HO_127002 := Aside0.mk (Kd.V_mono (Kd.V_told (Kd.V_told (Kd.V_old (by (with_reducible repeat (first | apply Kd.V_alloc | apply Kd.V_drewN | apply Kd.V_drew)); exact HO_127002.out) hb) (Kd.R_base ho0)) (Kd.R_base ho1)) (fun _ h_ => h_.1)); replace HO_127003 := Aside0.mk (Kd.V_mono (Kd.V_told (Kd.V_told (Kd.V_old (by (with_reducible repeat (first | apply Kd.V_alloc | apply Kd.V_drewN | apply Kd.V_drew)); exact HO_127003.out) hb) (Kd.R_base ho0)) (Kd.R_base ho1)) (fun _ h_ => h_.1)); replace BK125 := Aside0.mk (blk_below (bo BK125) hb); replace BK126 := Aside0.mk (blk_below (bo BK126) hb); replace BK127 := Aside0.mk (blk_below (bo BK127) hb); replace BK128 := Aside0.mk (blk_below (bo BK128) hb); replace HB := Aside0.mk (below_step (bl HB) hb); (try clear hb); (try clear hb2); (try clear hk); (try clear hi); (try clear ho0); (try clear ho1); obtain ⟨hcz60_0, hcz60_1, hcz60_2, hcz60_3⟩ := ce4 BK126; obtain ⟨hfz60_0, hfz60_1, hfz60_2, hfz60_3⟩ := fr4 BK126; obtain ⟨Ao61, co61, eo61⟩ := Kd.R_slice HO136.out; subst eo61; obtain ⟨Ao62, co62, eo62⟩ := Kd.R_slice HO139.out; subst eo62) | ((with_reducible refine gate_dst (N := 10) rfl ?_); refine box_event ?hg (N := 10) ?hd (cs := #[.bool false, .int .i64 0, .int .i64 0, .int .i64 0]) (t := 32) ?hr ?_; (case hd => rfl); (case hg => rfl); (case hr => first | (go_simp; done) | (go_simp; rfl)); intro gb140 hg w63 hbox hb; have BK140 := Aside0.mk (hbox); have GW140 := Aside0.mk ((by rw [hg]; exact (below_size (bl HB)) : w.heap.size ≤ gb140)); have GE140 := Aside0.mk ((by rw [hg]; exact (below_size (bl HB)) : w.heap.size ≤ gb140)); have NB125_140 := Aside0.mk ((by rw [hg]; exact Nat.ne_of_lt (blk_lt (g := gb125) (o := .cells #[.int .i64 a0_0, .int .i64 a0_1, .int .i64 a0_2, .int .i64 a0_3] 23 (0, 0)) (by (with_reducible repeat (first | refine blk_drewN ?_ _ | refine blk_drew ?_ | refine blk_alloc ?_ _)); refine blk_far ?_ NB125_126.out _; (with_reducible repeat (first | refine blk_drewN ?_ _ | refine blk_drew ?_ | refine blk_alloc ?_ _)); refine blk_far ?_ NB125_126.out _; (with_reducible repeat (first | refine blk_drewN ?_ _ | refine blk_drew ?_ | refine blk_alloc ?_ _)); refine blk_far ?_ NB125_126.out _; (with_reducible repeat (first | refine blk_drewN ?_ _ | refine blk_drew ?_ | refine blk_alloc ?_ _)); refine blk_far ?_ NB125_126.out _; (with_reducible repeat (first | refine blk_drewN ?_ _ | refine blk_drew ?_ | refine blk_alloc ?_ _)); exact BK125.out)) : gb125 ≠ gb140)); have NB140_125 := Aside0.mk ((by rw [hg]; exact Nat.ne_of_gt (blk_lt (g := gb125) (o := .cells #[.int .i64 a0_0, .int .i64 a0_1, .int .i64 a0_2, .int .i64 a0_3] 23 (0, 0)) (by (with_reducible repeat (first | refine blk_drewN ?_ _ | refine blk_drew ?_ | refine blk_alloc ?_ _)); refine blk_far ?_ NB125_126.out _; (with_reducible repeat (first | refine blk_drewN ?_ _ | refine blk_drew ?_ | refine blk_alloc ?_ _)); refine blk_far ?_ NB125_126.out _; (with_reducible repeat (first | refine blk_drewN ?_ _ | refine blk_drew ?_ | refine blk_alloc ?_ _)); refine blk_far ?_ NB125_126.out _; (with_reducible repeat (first | refine blk_drewN ?_ _ | refine blk_drew ?_ | refine blk_alloc ?_ _)); refine blk_far ?_ NB125_126.out _; (with_reducible repeat (first | refine blk_drewN ?_ _ | refine blk_drew ?_ | refine blk_alloc ?_ _)); exact BK125.out)) : gb140 ≠ gb125)); have NB126_140 := Aside0.mk ((by rw [hg]; exact Nat.ne_of_lt (blk_lt (g := gb126) (o := .cells #[.int .i64 t132, .int .i64 t133, .slice Ao61 t134.length co61, .slice Ao62 t137.length co62] 27 (0, 0)) (by (with_reducible repeat (first | refine blk_drewN ?_ _ | refine blk_drew ?_ | refine blk_alloc ?_ _)); refine blk_put (cs := #[.int .i64 t132, .int .i64 t133, .slice Ao61 t134.length co61, .slice A1_3 l1_3.length c1_3]) ?_ 3 _ rfl; (with_reducible repeat (first | refine blk_drewN ?_ _ | refine blk_drew ?_ | refine blk_alloc ?_ _)); refine blk_put (cs := #[.int .i64 t132, .int .i64 t133, .slice A1_2 l1_2.length c1_2, .slice A1_3 l1_3.length c1_3]) ?_ 2 _ rfl; (with_reducible repeat (first | refine blk_drewN ?_ _ | refine blk_drew ?_ | refine blk_alloc ?_ _)); refine blk_put (cs := #[.int .i64 t132, .int .i64 a1_1, .slice A1_2 l1_2.length c1_2, .slice A1_3 l1_3.length c1_3]) ?_ 1 _ rfl; (with_reducible repeat (first | refine blk_drewN ?_ _ | refine blk_drew ?_ | refine blk_alloc ?_ _)); refine blk_put (cs := #[.int .i64 a1_0, .int .i64 a1_1, .slice A1_2 l1_2.length c1_2, .slice A1_3 l1_3.length c1_3]) ?_ 0 _ rfl; (with_reducible repeat (first | refine blk_drewN ?_ _ | refine blk_drew ?_ | refine blk_alloc ?_ _)); exact BK126.out)) : gb126 ≠ gb140)); have NB140_126 := Aside0.mk ((by rw [hg]; exact Nat.ne_of_gt (blk_lt (g := gb126) (o := .cells #[.int .i64 t132, .int .i64 t133, .slice Ao61 t134.length co61, .slice Ao62 t137.length co62] 27 (0, 0)) (by (with_reducible repeat (first | refine blk_drewN ?_ _ | refine blk_drew ?_ | refine blk_alloc ?_ _)); refine blk_put (cs := #[.int .i64 t132, .int .i64 t133, .slice Ao61 t134.length co61, .slice A1_3 l1_3.length c1_3]) ?_ 3 _ rfl; (with_reducible repeat (first | refine blk_drewN ?_ _ | refine blk_drew ?_ | refine blk_alloc ?_ _)); refine blk_put (cs := #[.int .i64 t132, .int .i64 t133, .slice A1_2 l1_2.length c1_2, .slice A1_3 l1_3.length c1_3]) ?_ 2 _ rfl; (with_reducible repeat (first | refine blk_drewN ?_ _ | refine blk_drew ?_ | refine blk_alloc ?_ _)); refine blk_put (cs := #[.int .i64 t132, .int .i64 a1_1, .slice A1_2 l1_2.length c1_2, .slice A1_3 l1_3.length c1_3]) ?_ 1 _ rfl; (with_reducible repeat (first | refine blk_drewN ?_ _ | refine blk_drew ?_ | refine blk_alloc ?_ _)); refine blk_put (cs := #[.int .i64 a1_0, .int .i64 a1_1, .slice A1_2 l1_2.length c1_2, .slice A1_3 l1_3.length c1_3]) ?_ 0 _ rfl; (with_reducible repeat (first | refine blk_drewN ?_ _ | refine blk_drew ?_ | refine blk_alloc ?_ _)); exact BK126.out)) : gb140 ≠ gb126)); have NB127_140 := Aside0.mk ((by rw [hg]; exact Nat.ne_of_lt (blk_lt (g := gb127) (o := .cells #[.int .i64 0, .int .i64 0, .slice none 0 0, .slice none 0 0] 27 (0, 0)) (by (with_reducible repeat (first | refine blk_drewN ?_ _ | refine blk_drew ?_ | refine blk_alloc ?_ _)); refine blk_far ?_ NB127_126.out _; (with_reducible repeat (first | refine blk_drewN ?_ _ | refine blk_drew ?_ | refine blk_alloc ?_ _)); refine blk_far ?_ NB127_126.out _; (with_reducible repeat (first | refine blk_drewN ?_ _ | refine blk_drew ?_ | refine blk_alloc ?_ _)); refine blk_far ?_ NB127_126.out _; (with_reducible repeat (first | refine blk_drewN ?_ _ | refine blk_drew ?_ | refine blk_alloc ?_ _)); refine blk_far ?_ NB127_126.out _; (with_reducible repeat (first | refine blk_drewN ?_ _ | refine blk_drew ?_ | refine blk_alloc ?_ _)); exact BK127.out)) : gb127 ≠ gb140)); have NB140_127 := Aside0.mk ((by rw [hg]; exact Nat.ne_of_gt (blk_lt (g := gb127) (o := .cells #[.int .i64 0, .int .i64 0, .slice none 0 0, .slice none 0 0] 27 (0, 0)) (by (with_reducible repeat (first | refine blk_drewN ?_ _ | refine blk_drew ?_ | refine blk_alloc ?_ _)); refine blk_far ?_ NB127_126.out _; (with_reducible repeat (first | refine blk_drewN ?_ _ | refine blk_drew ?_ | refine blk_alloc ?_ _)); refine blk_far ?_ NB127_126.out _; (with_reducible repeat (first | refine blk_drewN ?_ _ | refine blk_drew ?_ | refine blk_alloc ?_ _)); refine blk_far ?_ NB127_126.out _; (with_reducible repeat (first | refine blk_drewN ?_ _ | refine blk_drew ?_ | refine blk_alloc ?_ _)); refine blk_far ?_ NB127_126.out _; (with_reducible repeat (first | refine blk_drewN ?_ _ | refine blk_drew ?_ | refine blk_alloc ?_ _)); exact BK127.out)) : gb140 ≠ gb127)); have NB128_140 := Aside0.mk ((by rw [hg]; exact Nat.ne_of_lt (blk_lt (g := gb128) (o := .cells #[.bool false, .int .i64 0, .int .i64 0, .int .i64 0] 32 (0, 0)) (by (with_reducible repeat (first | refine blk_drewN ?_ _ | refine blk_drew ?_ | refine blk_alloc ?_ _)); refine blk_far ?_ NB128_126.out _; (with_reducible repeat (first | refine blk_drewN ?_ _ | refine blk_drew ?_ | refine blk_alloc ?_ _)); refine blk_far ?_ NB128_126.out _; (with_reducible repeat (first | refine blk_drewN ?_ _ | refine blk_drew ?_ | refine blk_alloc ?_ _)); refine blk_far ?_ NB128_126.out _; (with_reducible repeat (first | refine blk_drewN ?_ _ | refine blk_drew ?_ | refine blk_alloc ?_ _)); refine blk_far ?_ NB128_126.out _; (with_reducible repeat (first | refine blk_drewN ?_ _ | refine blk_drew ?_ | refine blk_alloc ?_ _)); exact BK128.out)) : gb128 ≠ gb140)); have NB140_128 := Aside0.mk ((by rw [hg]; exact Nat.ne_of_gt (blk_lt (g := gb128) (o := .cells #[.bool false, .int .i64 0, .int .i64 0, .int .i64 0] 32 (0, 0)) (by (with_reducible repeat (first | refine blk_drewN ?_ _ | refine blk_drew ?_ | refine blk_alloc ?_ _)); refine blk_far ?_ NB128_126.out _; (with_reducible repeat (first | refine blk_drewN ?_ _ | refine blk_drew ?_ | refine blk_alloc ?_ _)); refine blk_far ?_ NB128_126.out _; (with_reducible repeat (first | refine blk_drewN ?_ _ | refine blk_drew ?_ | refine blk_alloc ?_ _)); refine blk_far ?_ NB128_126.out _; (with_reducible repeat (first | refine blk_drewN ?_ _ | refine blk_drew ?_ | refine blk_alloc ?_ _)); refine blk_far ?_ NB128_126.out _; (with_reducible repeat (first | refine blk_drewN ?_ _ | refine blk_drew ?_ | refine blk_alloc ?_ _)); exact BK128.out)) : gb140 ≠ gb128)); replace HO_127002 := Aside0.mk (Kd.V_below (Kd.V_elderB (by (with_reducible repeat (first | apply Kd.V_alloc | apply Kd.V_drewN | apply Kd.V_drew)); exact (Kd.V_mono (Kd.V_far (p := ⟨gb126, 3, none⟩) (Kd.V_far (p := ⟨gb126, 2, none⟩) (Kd.V_far (p := ⟨gb126, 1, none⟩) (Kd.V_far (p := ⟨gb126, 0, none⟩) (Kd.V_mono HO_127002.out (fun k_ hk => (⟨hk, hk.1.1.2.2.1⟩ : _ ∧ k_ ≠ gb126))) (fun _ hk => hk.2) (.int .i64 t132)) (fun _ hk => hk.2) (.int .i64 t133)) (fun _ hk => hk.2) (.slice Ao61 t134.length co61)) (fun _ hk => hk.2) (.slice Ao62 t137.length co62)) (fun _ h_ => h_.1))) gb140 (Nat.le_of_eq hg.symm)) hb); replace HO_127003 := Aside0.mk (Kd.V_below (Kd.V_elderB (by (with_reducible repeat (first | apply Kd.V_alloc | apply Kd.V_drewN | apply Kd.V_drew)); exact (Kd.V_mono (Kd.V_far (p := ⟨gb126, 3, none⟩) (Kd.V_far (p := ⟨gb126, 2, none⟩) (Kd.V_far (p := ⟨gb126, 1, none⟩) (Kd.V_far (p := ⟨gb126, 0, none⟩) (Kd.V_mono HO_127003.out (fun k_ hk => (⟨hk, hk.1.1.2.2.1⟩ : _ ∧ k_ ≠ gb126))) (fun _ hk => hk.2) (.int .i64 t132)) (fun _ hk => hk.2) (.int .i64 t133)) (fun _ hk => hk.2) (.slice Ao61 t134.length co61)) (fun _ hk => hk.2) (.slice Ao62 t137.length co62)) (fun _ h_ => h_.1))) gb140 (Nat.le_of_eq hg.symm)) hb); replace HO136 := Aside0.mk (Kd.R_below (by (with_reducible repeat (first | apply Kd.R_alloc | apply Kd.R_drewN | apply Kd.R_drew)); exact (Kd.R_mono (Kd.R_far (p := ⟨gb126, 3, none⟩) (Kd.R_far (p := ⟨gb126, 2, none⟩) (Kd.R_far (p := ⟨gb126, 1, none⟩) (Kd.R_far (p := ⟨gb126, 0, none⟩) (Kd.R_types HO136.out BK126.out (by decide)) (fun _ hk => hk.2) (.int .i64 t132)) (fun _ hk => hk.2) (.int .i64 t133)) (fun _ hk => hk.2) (.slice Ao61 t134.length co61)) (fun _ hk => hk.2) (.slice Ao62 t137.length co62)) (fun _ h_ => h_.1))) hb); replace HO139 := Aside0.mk (Kd.R_below (by (with_reducible repeat (first | apply Kd.R_alloc | apply Kd.R_drewN | apply Kd.R_drew)); exact (Kd.R_mono (Kd.R_far (p := ⟨gb126, 3, none⟩) (Kd.R_far (p := ⟨gb126, 2, none⟩) (Kd.R_far (p := ⟨gb126, 1, none⟩) (Kd.R_far (p := ⟨gb126, 0, none⟩) (Kd.R_types HO139.out BK126.out (by decide)) (fun _ hk => hk.2) (.int .i64 t132)) (fun _ hk => hk.2) (.int .i64 t133)) (fun _ hk => hk.2) (.slice Ao61 t134.length co61)) (fun _ hk => hk.2) (.slice Ao62 t137.length co62)) (fun _ h_ => h_.1))) hb); replace BK125 := Aside0.mk (blk_below (g := gb125) (o := .cells #[.int .i64 a0_0, .int .i64 a0_1, .int .i64 a0_2, .int .i64 a0_3] 23 (0, 0)) (by (with_reducible repeat (first | refine blk_drewN ?_ _ | refine blk_drew ?_ | refine blk_alloc ?_ _)); refine blk_far ?_ NB125_126.out _; (with_reducible repeat (first | refine blk_drewN ?_ _ | refine blk_drew ?_ | refine blk_alloc ?_ _)); refine blk_far ?_ NB125_126.out _; (with_reducible repeat (first | refine blk_drewN ?_ _ | refine blk_drew ?_ | refine blk_alloc ?_ _)); refine blk_far ?_ NB125_126.out _; (with_reducible repeat (first | refine blk_drewN ?_ _ | refine blk_drew ?_ | refine blk_alloc ?_ _)); refine blk_far ?_ NB125_126.out _; (with_reducible repeat (first | refine blk_drewN ?_ _ | refine blk_drew ?_ | refine blk_alloc ?_ _)); exact BK125.out) hb); replace BK126 := Aside0.mk (blk_below (g := gb126) (o := .cells #[.int .i64 t132, .int .i64 t133, .slice Ao61 t134.length co61, .slice Ao62 t137.length co62] 27 (0, 0)) (by (with_reducible repeat (first | refine blk_drewN ?_ _ | refine blk_drew ?_ | refine blk_alloc ?_ _)); refine blk_put (cs := #[.int .i64 t132, .int .i64 t133, .slice Ao61 t134.length co61, .slice A1_3 l1_3.length c1_3]) ?_ 3 _ rfl; (with_reducible repeat (first | refine blk_drewN ?_ _ | refine blk_drew ?_ | refine blk_alloc ?_ _)); refine blk_put (cs := #[.int .i64 t132, .int .i64 t133, .slice A1_2 l1_2.length c1_2, .slice A1_3 l1_3.length c1_3]) ?_ 2 _ rfl; (with_reducible repeat (first | refine blk_drewN ?_ _ | refine blk_drew ?_ | refine blk_alloc ?_ _)); refine blk_put (cs := #[.int .i64 t132, .int .i64 a1_1, .slice A1_2 l1_2.length c1_2, .slice A1_3 l1_3.length c1_3]) ?_ 1 _ rfl; (with_reducible repeat (first | refine blk_drewN ?_ _ | refine blk_drew ?_ | refine blk_alloc ?_ _)); refine blk_put (cs := #[.int .i64 a1_0, .int .i64 a1_1, .slice A1_2 l1_2.length c1_2, .slice A1_3 l1_3.length c1_3]) ?_ 0 _ rfl; (with_reducible repeat (first | refine blk_drewN ?_ _ | refine blk_drew ?_ | refine blk_alloc ?_ _)); exact BK126.out) hb); replace BK127 := Aside0.mk (blk_below (g := gb127) (o := .cells #[.int .i64 0, .int .i64 0, .slice none 0 0, .slice none 0 0] 27 (0, 0)) (by (with_reducible repeat (first | refine blk_drewN ?_ _ | refine blk_drew ?_ | refine blk_alloc ?_ _)); refine blk_far ?_ NB127_126.out _; (with_reducible repeat (first | refine blk_drewN ?_ _ | refine blk_drew ?_ | refine blk_alloc ?_ _)); refine blk_far ?_ NB127_126.out _; (with_reducible repeat (first | refine blk_drewN ?_ _ | refine blk_drew ?_ | refine blk_alloc ?_ _)); refine blk_far ?_ NB127_126.out _; (with_reducible repeat (first | refine blk_drewN ?_ _ | refine blk_drew ?_ | refine blk_alloc ?_ _)); refine blk_far ?_ NB127_126.out _; (with_reducible repeat (first | refine blk_drewN ?_ _ | refine blk_drew ?_ | refine blk_alloc ?_ _)); exact BK127.out) hb); replace BK128 := Aside0.mk (blk_below (g := gb128) (o := .cells #[.bool false, .int .i64 0, .int .i64 0, .int .i64 0] 32 (0, 0)) (by (with_reducible repeat (first | refine blk_drewN ?_ _ | refine blk_drew ?_ | refine blk_alloc ?_ _)); refine blk_far ?_ NB128_126.out _; (with_reducible repeat (first | refine blk_drewN ?_ _ | refine blk_drew ?_ | refine blk_alloc ?_ _)); refine blk_far ?_ NB128_126.out _; (with_reducible repeat (first | refine blk_drewN ?_ _ | refine blk_drew ?_ | refine blk_alloc ?_ _)); refine blk_far ?_ NB128_126.out _; (with_reducible repeat (first | refine blk_drewN ?_ _ | refine blk_drew ?_ | refine blk_alloc ?_ _)); refine blk_far ?_ NB128_126.out _; (with_reducible repeat (first | refine blk_drewN ?_ _ | refine blk_drew ?_ | refine blk_alloc ?_ _)); exact BK128.out) hb); replace HB := Aside0.mk (below_step (bl HB) hb); clear hb hbox hg))
    (try simp only [Act.put, List.setIfInBounds_toArray, List.set_cons_zero, List.set_cons_succ])
    go_cut [] (fun wc => ∃ (kq : Nat) (x127002_50 : List Int) (x141000_50 : Bool) (x141002_50 : Int) (u127002 : Value), Aside0 (ring_Ask.j1 kq a0_0 a0_1 a0_2 a0_3 t132 t133 x127002_50 t137 x141000_50 0 x141002_50 0 = some (r1, r2, r3, r4, r5, r6, r7, r8)) ∧ Aside0 (kq ≤ kj4) ∧ Aside0 (Kd.R (Kd.int .i64) 3 wc w.heap.size (fun k_ => (w.heap.size ≤ k_)) u127002 x127002_50) ∧ Aside0 (Kd.R k54 54 wc w.heap.size (fun k_ => (w.heap.size ≤ k_)) (.slice Ao62 t137.length co62) t137) ∧ Aside0 (wc.heap[gb125]? = some (.cells #[.int .i64 a0_0, .int .i64 a0_1, .int .i64 a0_2, .int .i64 a0_3] 23 (0, 0))) ∧ Aside0 (wc.heap[gb126]? = some (.cells #[.int .i64 t132, .int .i64 t133, u127002, (.slice Ao62 t137.length co62)] 27 (0, 0))) ∧ Aside0 (wc.heap[gb127]? = some (.cells #[.int .i64 0, .int .i64 0, (.slice none 0 0), (.slice none 0 0)] 27 (0, 0))) ∧ Aside0 (wc.heap[gb128]? = some (.cells #[.bool false, .int .i64 0, .int .i64 0, .int .i64 0] 32 (0, 0))) ∧ Aside0 (wc.heap[gb140]? = some (.cells #[.bool x141000_50, .int .i64 0, .int .i64 x141002_50, .int .i64 0] 32 (0, 0))) ∧ Aside0 (Below w.heap.size w wc))
    case first =>
     have H := HC51.out
     clear HC51
     replace H := Option.bind_eq_some_iff.mp H
     obtain ⟨t141, A640, H⟩ := H
     have A64 := Aside0.mk A640
     clear A640
     by_cases c65 : (wrap64 (t141 + a3)) ≤ a0_1
     ·rw [if_pos c65] at H
      have c65b0 : decide ((wrap64 (t141 + a3)) ≤ a0_1) = true := decide_eq_true c65
      clear c65
      (first | rw [c65b0] | (simp only [i64_w, i32_w]; rw [c65b0]) | skip)
      replace H := Option.bind_eq_some_iff.mp H
      obtain ⟨t142, A660, H⟩ := H
      have A66 := Aside0.mk A660
      clear A660
      by_cases c67 : a0_3 = 0
      ·rw [if_pos c67] at H
       exact absurd H (by simp)
      ·rw [if_neg c67] at H
       have c67b0 : (a0_3 == 0) = false := beq_eq_false_iff_ne.mpr c67
       have c67b1 : (a0_3 != 0) = true := bne_iff_ne.mpr c67
       obtain ⟨ji68, hji68⟩ : ∃ j_ : Int, (Int.tmod t142 a0_3) = j_ := ⟨_, rfl⟩
       replace H : (if 0 ≤ (ji68) then (if (ji68) < (t134.length : Int) then (ring_Ask.j1 kj4 a0_0 a0_1 a0_2 a0_3 t132 t133 (t134.set ((ji68) : Int).toNat (wrap64 ((rd t134 (ji68)) + a3))) t137 true 0 0 0) else (none)) else (none)) = some (r1, r2, r3, r4, r5, r6, r7, r8) := by first | (rw [hji68] at H; exact H) | (simp only [hji68] at H ⊢; exact H)
       (try rw [hji68] at A64)
       (try rw [hji68] at A66)
       by_cases c69 : 0 ≤ (ji68)
       ·rw [if_pos c69] at H
        have c69b0 : decide (0 ≤ (ji68)) = true := decide_eq_true c69
        clear c69
        by_cases c70 : (ji68) < (t134.length : Int)
        ·rw [if_pos c70] at H
         have c70b0 : decide ((ji68) < (t134.length : Int)) = true := decide_eq_true c70
         clear c70
         obtain ⟨y144, hy144⟩ : ∃ y_ : List Int, y_ = (t134.set ((ji68) : Int).toNat (wrap64 ((rd t134 (ji68)) + a3))) := ⟨_, rfl⟩
         replace H : (ring_Ask.j1 kj4 a0_0 a0_1 a0_2 a0_3 t132 t133 y144 t137 true 0 0 0) = some (r1, r2, r3, r4, r5, r6, r7, r8) := by first | (rw [hy144]; with_reducible exact H) | (have H2_ := (Option.bind_some _ _).symm.trans H; rw [hy144]; with_reducible exact H2_) | (have H2_ := (Option.bind_some _ _).symm.trans H; with_reducible exact H2_) | with_reducible exact H | (rw [hy144]; exact H) | exact H
         have Ny144 := Aside0.mk hy144
         clear hy144
         have H' := Aside0.mk H
         clear H
         try go_wp2
         replace HO_127002 := Aside0.mk (Kd.V_drew HO_127002.out)
         replace HO_127003 := Aside0.mk (Kd.V_drew HO_127003.out)
         replace HO136 := Aside0.mk (Kd.R_drew HO136.out)
         replace HO139 := Aside0.mk (Kd.R_drew HO139.out)
         replace BK125 := Aside0.mk (blk_drew BK125.out)
         replace BK126 := Aside0.mk (blk_drew BK126.out)
         replace BK127 := Aside0.mk (blk_drew BK127.out)
         replace BK128 := Aside0.mk (blk_drew BK128.out)
         replace BK140 := Aside0.mk (blk_drew BK140.out)
         replace HB := Aside0.mk (below_drew1 HB.out)
         refine start_ (n := 8) (S := fun w' => w'.cell? ⟨gb126, 0, none⟩ = some (.int .i64 t132) ∧ w'.cell? ⟨gb126, 1, none⟩ = some (.int .i64 t133) ∧ w'.cell? ⟨gb126, 2, none⟩ = some (.slice Ao61 t134.length co61) ∧ w'.cell? ⟨gb126, 3, none⟩ = some (.slice Ao62 t137.length co62) ∧ w'.cell? ⟨gb125, 0, none⟩ = some (.int .i64 a0_0) ∧ w'.cell? ⟨gb125, 1, none⟩ = some (.int .i64 a0_1) ∧ w'.cell? ⟨gb125, 2, none⟩ = some (.int .i64 a0_2) ∧ w'.cell? ⟨gb125, 3, none⟩ = some (.int .i64 a0_3)) (ds := []) #[false, false, false, false, false, false, false, false] (by kernel_rfl) rfl rfl ⟨(blk_cell BK126.out 0).trans rfl, (blk_cell BK126.out 1).trans rfl, (blk_cell BK126.out 2).trans rfl, (blk_cell BK126.out 3).trans rfl, (blk_cell BK125.out 0).trans rfl, (blk_cell BK125.out 1).trans rfl, (blk_cell BK125.out 2).trans rfl, (blk_cell BK125.out 3).trans rfl⟩ (fun hHeld => ?_); refine with_tabW ring_Ask.tab6 ring_Ask.bits6 (fun HT_ HW_ => ?_)
         generalize w63.drew = w72 at HO_127002 HO_127003 HO136 HO139 BK125 BK126 BK127 BK128 BK140 HB hHeld ⊢
         refine pureA 2 45 HT_ ?_
         refine pureA 4 47 HT_ ?_
         refine takeA 0 43 HT_ HW_ hHeld ?_
         refine takeA 5 48 HT_ HW_ hHeld ?_
         refine one_ (i := 1) (N := some 44) #[true, true, true, false, true, true, false, false] rfl rfl (one_of HT_.out (by kernel_rfl)) (by decide) (fun K hK => ?_)
         refine goes_ Try.func24 (by kernel_rfl) rfl #[.agg #[.int .i64 t132, .int .i64 t133, .slice Ao61 t134.length co61, .slice Ao62 t137.length co62]] (by rfl) rfl rfl (by (try simp only [List.map_toArray, List.map_cons, List.map_nil]); first | done | rfl | (simp only [List.length_drop, List.length_take]; rfl)) ?_
         with_reducible refine (ring_total.calls kj4 t132 t133 _ _ t134 _ _ t137 t141 _ ?side1 ?side2 ?side3 ?side4 A64.out).mono ?_
         (case side1 => repeat (first | exact (Kd.R_reads' HO136.out).2.2 | (with_reducible refine Kd.C_alloc ?_ _) | (with_reducible refine Kd.C_drewN ?_ _) | (with_reducible refine Kd.C_drew ?_)))
         (case side2 => exact (Kd.R_reads' HO136.out).2.1)
         (case side3 => repeat (first | exact (Kd.R_reads' HO139.out).2.2 | (with_reducible refine Kd.C_alloc ?_ _) | (with_reducible refine Kd.C_drewN ?_ _) | (with_reducible refine Kd.C_drew ?_)))
         (case side4 => exact (Kd.R_reads' HO139.out).2.1)
         rintro e w73 ⟨rfl, hb⟩
         refine ⟨_, rfl, ?_⟩
         replace HO_127002 := vb HO_127002 hb
         replace HO_127003 := vb HO_127003 hb
         replace HO136 := Aside0.mk (Kd.R_below (by (with_reducible repeat (first | apply Kd.R_alloc | apply Kd.R_drewN | apply Kd.R_drew)); exact HO136.out) hb)
         replace HO139 := Aside0.mk (Kd.R_below (by (with_reducible repeat (first | apply Kd.R_alloc | apply Kd.R_drewN | apply Kd.R_drew)); exact HO139.out) hb)
         replace BK125 := Aside0.mk (blk_below (bo BK125) hb)
         replace BK126 := Aside0.mk (blk_below (bo BK126) hb)
         replace BK127 := Aside0.mk (blk_below (bo BK127) hb)
         replace BK128 := Aside0.mk (blk_below (bo BK128) hb)
         replace BK140 := Aside0.mk (blk_below (bo BK140) hb)
         replace HB := Aside0.mk (below_step (bl HB) hb)
         (try clear hb)
         (try clear hb2)
         (try clear hk)
         (try clear hi)
         refine hK.out _ _ ⟨(blk_cell BK126.out 0).trans rfl, (blk_cell BK126.out 1).trans rfl, (blk_cell BK126.out 2).trans rfl, (blk_cell BK126.out 3).trans rfl, (blk_cell BK125.out 0).trans rfl, (blk_cell BK125.out 1).trans rfl, (blk_cell BK125.out 2).trans rfl, (blk_cell BK125.out 3).trans rfl⟩ (fun hHeld => ?_)
         clear hK K
         refine norm_ (a' := ?_) ?_ ?_
         rotate_left
         ·show Act.put _ (some 44) _ = _
          simp only [Act.put, List.setIfInBounds_toArray, List.set_cons_zero, List.set_cons_succ, i64_w, i32_w]
          rfl
         refine pureA 3 46 HT_ ?_
         refine pureA 6 49 HT_ ?_
         refine pureA 7 42 HT_ ?_
         refine done_ (done_of HT_.out (by kernel_rfl)) ?_
         have hnb74 := NB140_125.out
         have hnc74 := NB125_140.out
         have hnb75 := NB140_126.out
         have hnc75 := NB126_140.out
         have hnb76 := NB140_127.out
         have hnc76 := NB127_140.out
         have hnb77 := NB140_128.out
         have hnc77 := NB128_140.out
         obtain ⟨hcz78_0, hcz78_1, hcz78_2, hcz78_3⟩ := ce4 BK140
         obtain ⟨hfz78_0, hfz78_1, hfz78_2, hfz78_3⟩ := fr4 BK140
         try go_wp2
         have n0_ : Aside0 (Kd.V (Kd.int .i64) 3 (w73.setCell ⟨gb140, 0, none⟩ (.bool true)) w.heap.size (fun k_ => ((P1_2_ k_ ∨ P1_3_ k_) ∨ w.heap.size ≤ k_) ∧ some k_ ≠ (.slice Ao61 t134.length co61 : Value).ownBlock ∧ some k_ ≠ (.slice Ao62 t137.length co62 : Value).ownBlock ∧ k_ ≠ gb125 ∧ k_ ≠ gb126 ∧ k_ ≠ gb127 ∧ k_ ≠ gb128 ∧ k_ ≠ gb140) (.slice A1_2 l1_2.length c1_2) l1_2) := ⟨by (with_reducible repeat (first | apply Kd.V_alloc | apply Kd.V_drewN | apply Kd.V_drew)); exact Kd.V_mono (Kd.V_far (p := ⟨gb140, 0, none⟩) (Kd.V_mono HO_127002.out (fun k_ hk => (⟨hk, hk.2⟩ : _ ∧ k_ ≠ gb140))) (fun _ hk => hk.2) (.bool true)) (fun _ hk => ⟨hk.1.1.1.1.1, ⟨hk.1.1.1.2, ⟨hk.1.1.2, ⟨hk.1.1.1.1.2.1, ⟨hk.1.1.1.1.2.2.1, ⟨hk.1.1.1.1.2.2.2.1, ⟨hk.1.1.1.1.2.2.2.2, hk.1.2⟩⟩⟩⟩⟩⟩⟩)⟩
         have n1_ : Aside0 (Kd.V k54 54 (w73.setCell ⟨gb140, 0, none⟩ (.bool true)) w.heap.size (fun k_ => ((P1_2_ k_ ∨ P1_3_ k_) ∨ w.heap.size ≤ k_) ∧ some k_ ≠ (.slice Ao61 t134.length co61 : Value).ownBlock ∧ some k_ ≠ (.slice Ao62 t137.length co62 : Value).ownBlock ∧ k_ ≠ gb125 ∧ k_ ≠ gb126 ∧ k_ ≠ gb127 ∧ k_ ≠ gb128 ∧ k_ ≠ gb140) (.slice A1_3 l1_3.length c1_3) l1_3) := ⟨by (with_reducible repeat (first | apply Kd.V_alloc | apply Kd.V_drewN | apply Kd.V_drew)); exact Kd.V_mono (Kd.V_far (p := ⟨gb140, 0, none⟩) (Kd.V_mono HO_127003.out (fun k_ hk => (⟨hk, hk.2⟩ : _ ∧ k_ ≠ gb140))) (fun _ hk => hk.2) (.bool true)) (fun _ hk => ⟨hk.1.1.1.1.1, ⟨hk.1.1.1.2, ⟨hk.1.1.2, ⟨hk.1.1.1.1.2.1, ⟨hk.1.1.1.1.2.2.1, ⟨hk.1.1.1.1.2.2.2.1, ⟨hk.1.1.1.1.2.2.2.2, hk.1.2⟩⟩⟩⟩⟩⟩⟩)⟩
         have n2_ : Aside0 (Kd.R (Kd.int .i64) 3 (w73.setCell ⟨gb140, 0, none⟩ (.bool true)) w.heap.size (fun k_ => (w.heap.size ≤ k_)) (.slice Ao61 t134.length co61) t134) := ⟨by (with_reducible repeat (first | apply Kd.R_alloc | apply Kd.R_drewN | apply Kd.R_drew)); exact Kd.R_mono (Kd.R_far (p := ⟨gb140, 0, none⟩) (Kd.R_types HO136.out BK140.out (by decide)) (fun _ hk => hk.2) (.bool true)) (fun _ hk => hk.1.1)⟩
         have n3_ : Aside0 (Kd.R k54 54 (w73.setCell ⟨gb140, 0, none⟩ (.bool true)) w.heap.size (fun k_ => (w.heap.size ≤ k_)) (.slice Ao62 t137.length co62) t137) := ⟨by (with_reducible repeat (first | apply Kd.R_alloc | apply Kd.R_drewN | apply Kd.R_drew)); exact Kd.R_mono (Kd.R_far (p := ⟨gb140, 0, none⟩) (Kd.R_types HO139.out BK140.out (by decide)) (fun _ hk => hk.2) (.bool true)) (fun _ hk => hk.1.1)⟩
         have n4_ : Aside0 ((w73.setCell ⟨gb140, 0, none⟩ (.bool true)).heap[gb125]? = some (.cells #[.int .i64 a0_0, .int .i64 a0_1, .int .i64 a0_2, .int .i64 a0_3] 23 (0, 0))) := ⟨by (with_reducible repeat (first | refine blk_drewN ?_ _ | refine blk_drew ?_ | refine blk_alloc ?_ _)); refine blk_far ?_ NB125_140.out _; (with_reducible repeat (first | refine blk_drewN ?_ _ | refine blk_drew ?_ | refine blk_alloc ?_ _)); exact BK125.out⟩
         have n5_ : Aside0 ((w73.setCell ⟨gb140, 0, none⟩ (.bool true)).heap[gb126]? = some (.cells #[.int .i64 t132, .int .i64 t133, .slice Ao61 t134.length co61, .slice Ao62 t137.length co62] 27 (0, 0))) := ⟨by (with_reducible repeat (first | refine blk_drewN ?_ _ | refine blk_drew ?_ | refine blk_alloc ?_ _)); refine blk_far ?_ NB126_140.out _; (with_reducible repeat (first | refine blk_drewN ?_ _ | refine blk_drew ?_ | refine blk_alloc ?_ _)); exact BK126.out⟩
         have n6_ : Aside0 ((w73.setCell ⟨gb140, 0, none⟩ (.bool true)).heap[gb127]? = some (.cells #[.int .i64 0, .int .i64 0, .slice none 0 0, .slice none 0 0] 27 (0, 0))) := ⟨by (with_reducible repeat (first | refine blk_drewN ?_ _ | refine blk_drew ?_ | refine blk_alloc ?_ _)); refine blk_far ?_ NB127_140.out _; (with_reducible repeat (first | refine blk_drewN ?_ _ | refine blk_drew ?_ | refine blk_alloc ?_ _)); exact BK127.out⟩
         have n7_ : Aside0 ((w73.setCell ⟨gb140, 0, none⟩ (.bool true)).heap[gb128]? = some (.cells #[.bool false, .int .i64 0, .int .i64 0, .int .i64 0] 32 (0, 0))) := ⟨by (with_reducible repeat (first | refine blk_drewN ?_ _ | refine blk_drew ?_ | refine blk_alloc ?_ _)); refine blk_far ?_ NB128_140.out _; (with_reducible repeat (first | refine blk_drewN ?_ _ | refine blk_drew ?_ | refine blk_alloc ?_ _)); exact BK128.out⟩
         have n8_ : Aside0 ((w73.setCell ⟨gb140, 0, none⟩ (.bool true)).heap[gb140]? = some (.cells #[.bool true, .int .i64 0, .int .i64 0, .int .i64 0] 32 (0, 0))) := ⟨by (with_reducible repeat (first | refine blk_drewN ?_ _ | refine blk_drew ?_ | refine blk_alloc ?_ _)); refine blk_put (cs := #[.bool false, .int .i64 0, .int .i64 0, .int .i64 0]) ?_ 0 _ rfl; (with_reducible repeat (first | refine blk_drewN ?_ _ | refine blk_drew ?_ | refine blk_alloc ?_ _)); exact BK140.out⟩
         have n9_ : Aside0 (Below w.heap.size w (w73.setCell ⟨gb140, 0, none⟩ (.bool true))) := ⟨bl HB⟩
         (try clear HO_127002)
         (try clear HO_127003)
         (try clear HO136)
         (try clear HO139)
         (try clear BK125)
         (try clear BK126)
         (try clear BK127)
         (try clear BK128)
         (try clear BK140)
         (try clear HB)
         generalize (w73.setCell ⟨gb140, 0, none⟩ (.bool true)) = w79 at n0_ n1_ n2_ n3_ n4_ n5_ n6_ n7_ n8_ n9_ ⊢
         have HO_127002 := n0_
         have HO_127003 := n1_
         have HO136 := n2_
         have HO139 := n3_
         have BK125 := n4_
         have BK126 := n5_
         have BK127 := n6_
         have BK128 := n7_
         have BK140 := n8_
         have HB := n9_
         clear n0_ n1_ n2_ n3_ n4_ n5_ n6_ n7_ n8_ n9_
         replace HO_127002 := Aside0.mk (Kd.V_drew HO_127002.out)
         replace HO_127003 := Aside0.mk (Kd.V_drew HO_127003.out)
         replace HO136 := Aside0.mk (Kd.R_drew HO136.out)
         replace HO139 := Aside0.mk (Kd.R_drew HO139.out)
         replace BK125 := Aside0.mk (blk_drew BK125.out)
         replace BK126 := Aside0.mk (blk_drew BK126.out)
         replace BK127 := Aside0.mk (blk_drew BK127.out)
         replace BK128 := Aside0.mk (blk_drew BK128.out)
         replace BK140 := Aside0.mk (blk_drew BK140.out)
         replace HB := Aside0.mk (below_drew1 HB.out)
         have p143 : 0 ≤ ((ji68) : Int) := of_decide_eq_true (by first | (with_reducible assumption) | assumption)
         have q143 : (ji68) < (t134.length : Int) := of_decide_eq_true (by first | (with_reducible assumption) | assumption)
         obtain ⟨ad143, e143, hx143_0⟩ := Kd.at_int (Kd.R_reads' HO136.out).2.2 (ji68) p143 q143
         cases e143
         replace p143 := eq_true p143
         replace q143 := eq_true q143
         refine start_ (n := 15) (S := fun w' => w'.cell? ⟨gb126, 0, none⟩ = some (.int .i64 t132) ∧ w'.cell? ⟨gb126, 1, none⟩ = some (.int .i64 t133) ∧ w'.cell? ⟨gb126, 2, none⟩ = some (.slice (some ad143) t134.length co61) ∧ w'.cell? ⟨gb126, 3, none⟩ = some (.slice Ao62 t137.length co62) ∧ w'.cell? ⟨gb125, 0, none⟩ = some (.int .i64 a0_0) ∧ w'.cell? ⟨gb125, 1, none⟩ = some (.int .i64 a0_1) ∧ w'.cell? ⟨gb125, 2, none⟩ = some (.int .i64 a0_2) ∧ w'.cell? ⟨gb125, 3, none⟩ = some (.int .i64 a0_3) ∧ w'.cell? (ad143.add ((ji68)).toNat) = some (.int .i64 (rd t134 (ji68)))) (ds := [14]) #[false, false, false, false, false, false, false, false, false, false, false, false, false, false, false] (by kernel_rfl) rfl rfl ⟨(blk_cell BK126.out 0).trans rfl, (blk_cell BK126.out 1).trans rfl, (blk_cell BK126.out 2).trans rfl, (blk_cell BK126.out 3).trans rfl, (blk_cell BK125.out 0).trans rfl, (blk_cell BK125.out 1).trans rfl, (blk_cell BK125.out 2).trans rfl, (blk_cell BK125.out 3).trans rfl, hx143_0⟩ (fun hHeld => ?_); refine with_tabW ring_Ask.tab8 ring_Ask.bits8 (fun HT_ HW_ => ?_)
         generalize w79.drew = w80 at HO_127002 HO_127003 HO136 HO139 BK125 BK126 BK127 BK128 BK140 HB hx143_0 hHeld ⊢
         refine pureA 0 51 HT_ ?_
         refine pureA 3 54 HT_ ?_
         refine pureA 6 57 HT_ ?_
         refine pureA 11 62 HT_ ?_
         refine takeA 1 52 HT_ HW_ hHeld ?_ (hy := by (refine Or.inl ⟨by rfl, ?_⟩; intro w' hS_; (try simp only [add_plain] at hS_); go_simp; with_reducible rfl))
         refine takeA 2 53 HT_ HW_ hHeld ?_ (hy := by (refine Or.inl ⟨by rfl, ?_⟩; intro w' hS_; (try simp only [add_plain] at hS_); go_simp; with_reducible rfl))
         refine takeA 4 55 HT_ HW_ hHeld ?_ (hy := by (refine Or.inl ⟨by rfl, ?_⟩; intro w' hS_; (try simp only [add_plain] at hS_); go_simp; with_reducible rfl))
         refine takeA 7 58 HT_ HW_ hHeld ?_ (hy := by (refine Or.inl ⟨by rfl, ?_⟩; intro w' hS_; (try simp only [add_plain] at hS_); go_simp; with_reducible rfl))
         refine one_ (i := 5) (N := some 56) #[true, true, true, true, true, true, true, true, false, false, false, true, false, false, false] rfl rfl (one_of HT_.out (by kernel_rfl)) (by decide) (fun K hK => ?_)
         refine goes_ Try.func25 (by kernel_rfl) rfl #[.agg #[.int .i64 a0_0, .int .i64 a0_1, .int .i64 a0_2, .int .i64 a0_3], .int .i64 t132] (by rfl) rfl rfl (by (try simp only [List.map_toArray, List.map_cons, List.map_nil]); first | done | rfl | (simp only [List.length_drop, List.length_take]; rfl)) ?_
         with_reducible refine (ring_number.calls a0_0 a0_1 a0_2 a0_3 t132 t142 _ A66.out).mono ?_
         rintro e w81 ⟨rfl, hb⟩
         have HS8_ := (hb.cell (World.block_lt_of_cell? _ _ (hHeld.2.2.2.2.2.2.2.2))).trans (hHeld.2.2.2.2.2.2.2.2)
         refine ⟨_, rfl, ?_⟩
         replace HO_127002 := vb HO_127002 hb
         replace HO_127003 := vb HO_127003 hb
         replace HO136 := Aside0.mk (Kd.R_below (by (with_reducible repeat (first | apply Kd.R_alloc | apply Kd.R_drewN | apply Kd.R_drew)); exact HO136.out) hb)
         replace HO139 := Aside0.mk (Kd.R_below (by (with_reducible repeat (first | apply Kd.R_alloc | apply Kd.R_drewN | apply Kd.R_drew)); exact HO139.out) hb)
         replace BK125 := Aside0.mk (blk_below (bo BK125) hb)
         replace BK126 := Aside0.mk (blk_below (bo BK126) hb)
         replace BK127 := Aside0.mk (blk_below (bo BK127) hb)
         replace BK128 := Aside0.mk (blk_below (bo BK128) hb)
         replace BK140 := Aside0.mk (blk_below (bo BK140) hb)
         replace HB := Aside0.mk (below_step (bl HB) hb)
         (try clear hb)
         (try clear hb2)
         (try clear hk)
         (try clear hi)
         have p71 : 0 ≤ ((ji68) : Int) := of_decide_eq_true (by first | (with_reducible assumption) | assumption)
         have q71 : ((ji68) : Int) < ((t134.length : Int) : Int) := of_decide_eq_true (by first | (with_reducible assumption) | assumption)
         obtain ⟨go71, co71, eo71, gb71, gl71, cl71, HG71⟩ := Kd.R_form HO136.out (by omega)
         (first | cases eo71 | (injection eo71 with ea_ en_ ec_; (first | subst ea_ | (injection ea_ with ea_; subst ea_)); subst ec_; clear en_))
         have GB71 := Aside0.mk gb71
         have GG71 := Aside0.mk HG71
         clear gb71 gl71 HG71
         (first | simp only [add_plain] at hx143_0 | skip)
         obtain ⟨hx71_0, hf71_0⟩ := Kd.R_celln 0 HO136.out ((ji68) : Int) p71 q71
         replace p71 := eq_true p71
         replace q71 := eq_true q71
         have HP82 := Kd.R_putn HO136.out ((ji68) : Int) (wrap64 ((rd t134 (ji68)) + a3))
         rw [← Ny144.out] at HP82
         have HQ82 := Aside0.mk HP82
         clear HP82
         refine hK.out _ _ ⟨(blk_cell BK126.out 0).trans rfl, (blk_cell BK126.out 1).trans rfl, (blk_cell BK126.out 2).trans rfl, (blk_cell BK126.out 3).trans rfl, (blk_cell BK125.out 0).trans rfl, (blk_cell BK125.out 1).trans rfl, (blk_cell BK125.out 2).trans rfl, (blk_cell BK125.out 3).trans rfl, HS8_⟩ (fun hHeld => ?_)
         clear hK K
         refine norm_ (a' := ?_) ?_ ?_
         rotate_left
         ·show Act.put _ (some 56) _ = _
          simp only [Act.put, List.setIfInBounds_toArray, List.set_cons_zero, List.set_cons_succ, i64_w, i32_w]
          rfl
         refine pureA 8 59 HT_ ?_
         refine pureA 9 60 HT_ ?_
         refine takeA 10 61 HT_ HW_ hHeld ?_ (hy := by (refine Or.inl ⟨by rfl, ?_⟩; intro w' hS_; (try simp only [add_plain] at hS_); go_simp; with_reducible rfl))
         refine pureA 12 63 HT_ ?_
         refine pureA 13 64 HT_ ?_
         refine last_ (i := 14) (N := none) #[true, true, true, true, true, true, true, true, true, true, true, true, true, true, true] rfl rfl (one_of HT_.out (by kernel_rfl)) (by decide) (fun K hK => ?_)
         refine skip_ (w1 := ?_) (by rfl) rfl ?_ ?_
         rotate_left
         ·go_simp
          rfl
         refine hK.out _ _ ?_
         clear hK K
         refine done_ (done_of HT_.out (by kernel_rfl)) ?_
         try go_wp2
         go_meet
         case rel => exact ⟨_, (y144), (true), (0), (.slice (some ⟨go71, 0, none⟩) t134.length co61), H', ⟨by have := HJ4.out; first | omega | exact Nat.le_refl _⟩, ⟨by (with_reducible repeat (first | apply Kd.R_alloc | apply Kd.R_drewN | apply Kd.R_drew)); exact HQ82.out⟩, ⟨by (with_reducible repeat (first | apply Kd.R_alloc | apply Kd.R_drewN | apply Kd.R_drew)); exact Kd.R_mono (Kd.R_far (p := ⟨go71, ((ji68) : Int).toNat, none⟩) (Kd.R_types HO139.out GG71.out (by decide)) (fun _ hk => hk.2) (.int .i64 (wrap64 ((rd t134 (ji68)) + a3)))) (fun _ hk => hk.1)⟩, ⟨by (with_reducible repeat (first | refine blk_drewN ?_ _ | refine blk_drew ?_ | refine blk_alloc ?_ _)); refine blk_far ?_ (by have h_ := Kd.R_ne HO136.out BK125.out (by decide); intro e_; exact h_ (by rw [e_]; rfl)) _; (with_reducible repeat (first | refine blk_drewN ?_ _ | refine blk_drew ?_ | refine blk_alloc ?_ _)); exact BK125.out⟩, ⟨by (with_reducible repeat (first | refine blk_drewN ?_ _ | refine blk_drew ?_ | refine blk_alloc ?_ _)); refine blk_far ?_ (by have h_ := Kd.R_ne HO136.out BK126.out (by decide); intro e_; exact h_ (by rw [e_]; rfl)) _; (with_reducible repeat (first | refine blk_drewN ?_ _ | refine blk_drew ?_ | refine blk_alloc ?_ _)); exact BK126.out⟩, ⟨by (with_reducible repeat (first | refine blk_drewN ?_ _ | refine blk_drew ?_ | refine blk_alloc ?_ _)); refine blk_far ?_ (by have h_ := Kd.R_ne HO136.out BK127.out (by decide); intro e_; exact h_ (by rw [e_]; rfl)) _; (with_reducible repeat (first | refine blk_drewN ?_ _ | refine blk_drew ?_ | refine blk_alloc ?_ _)); exact BK127.out⟩, ⟨by (with_reducible repeat (first | refine blk_drewN ?_ _ | refine blk_drew ?_ | refine blk_alloc ?_ _)); refine blk_far ?_ (by have h_ := Kd.R_ne HO136.out BK128.out (by decide); intro e_; exact h_ (by rw [e_]; rfl)) _; (with_reducible repeat (first | refine blk_drewN ?_ _ | refine blk_drew ?_ | refine blk_alloc ?_ _)); exact BK128.out⟩, ⟨by (with_reducible repeat (first | refine blk_drewN ?_ _ | refine blk_drew ?_ | refine blk_alloc ?_ _)); refine blk_far ?_ (by have h_ := Kd.R_ne HO136.out BK140.out (by decide); intro e_; exact h_ (by rw [e_]; rfl)) _; (with_reducible repeat (first | refine blk_drewN ?_ _ | refine blk_drew ?_ | refine blk_alloc ?_ _)); exact BK140.out⟩, ⟨bl HB⟩⟩
        ·rw [if_neg c70] at H
         exact absurd H (by simp)
       ·rw [if_neg c69] at H
        exact absurd H (by simp)
     ·rw [if_neg c65] at H
      have c65b0 : decide ((wrap64 (t141 + a3)) ≤ a0_1) = false := decide_eq_false c65
      clear c65
      (first | rw [c65b0] | (simp only [i64_w, i32_w]; rw [c65b0]) | skip)
      by_cases c83 : a3 > a0_1
      ·rw [if_pos c83] at H
       have c83b0 : decide (a0_1 < a3) = true := decide_eq_true c83
       clear c83
       have H' := Aside0.mk H
       clear H
       try go_wp2
       replace HO_127002 := Aside0.mk (Kd.V_drew HO_127002.out)
       replace HO_127003 := Aside0.mk (Kd.V_drew HO_127003.out)
       replace HO136 := Aside0.mk (Kd.R_drew HO136.out)
       replace HO139 := Aside0.mk (Kd.R_drew HO139.out)
       replace BK125 := Aside0.mk (blk_drew BK125.out)
       replace BK126 := Aside0.mk (blk_drew BK126.out)
       replace BK127 := Aside0.mk (blk_drew BK127.out)
       replace BK128 := Aside0.mk (blk_drew BK128.out)
       replace BK140 := Aside0.mk (blk_drew BK140.out)
       replace HB := Aside0.mk (below_drew1 HB.out)
       refine start_ (n := 8) (S := fun w' => w'.cell? ⟨gb126, 0, none⟩ = some (.int .i64 t132) ∧ w'.cell? ⟨gb126, 1, none⟩ = some (.int .i64 t133) ∧ w'.cell? ⟨gb126, 2, none⟩ = some (.slice Ao61 t134.length co61) ∧ w'.cell? ⟨gb126, 3, none⟩ = some (.slice Ao62 t137.length co62) ∧ w'.cell? ⟨gb125, 0, none⟩ = some (.int .i64 a0_0) ∧ w'.cell? ⟨gb125, 1, none⟩ = some (.int .i64 a0_1) ∧ w'.cell? ⟨gb125, 2, none⟩ = some (.int .i64 a0_2) ∧ w'.cell? ⟨gb125, 3, none⟩ = some (.int .i64 a0_3)) (ds := []) #[false, false, false, false, false, false, false, false] (by kernel_rfl) rfl rfl ⟨(blk_cell BK126.out 0).trans rfl, (blk_cell BK126.out 1).trans rfl, (blk_cell BK126.out 2).trans rfl, (blk_cell BK126.out 3).trans rfl, (blk_cell BK125.out 0).trans rfl, (blk_cell BK125.out 1).trans rfl, (blk_cell BK125.out 2).trans rfl, (blk_cell BK125.out 3).trans rfl⟩ (fun hHeld => ?_); refine with_tabW ring_Ask.tab6 ring_Ask.bits6 (fun HT_ HW_ => ?_)
       generalize w63.drew = w84 at HO_127002 HO_127003 HO136 HO139 BK125 BK126 BK127 BK128 BK140 HB hHeld ⊢
       refine pureA 2 45 HT_ ?_
       refine pureA 4 47 HT_ ?_
       refine takeA 0 43 HT_ HW_ hHeld ?_
       refine takeA 5 48 HT_ HW_ hHeld ?_
       refine one_ (i := 1) (N := some 44) #[true, true, true, false, true, true, false, false] rfl rfl (one_of HT_.out (by kernel_rfl)) (by decide) (fun K hK => ?_)
       refine goes_ Try.func24 (by kernel_rfl) rfl #[.agg #[.int .i64 t132, .int .i64 t133, .slice Ao61 t134.length co61, .slice Ao62 t137.length co62]] (by rfl) rfl rfl (by (try simp only [List.map_toArray, List.map_cons, List.map_nil]); first | done | rfl | (simp only [List.length_drop, List.length_take]; rfl)) ?_
       with_reducible refine (ring_total.calls kj4 t132 t133 _ _ t134 _ _ t137 t141 _ ?side1 ?side2 ?side3 ?side4 A64.out).mono ?_
       (case side1 => repeat (first | exact (Kd.R_reads' HO136.out).2.2 | (with_reducible refine Kd.C_alloc ?_ _) | (with_reducible refine Kd.C_drewN ?_ _) | (with_reducible refine Kd.C_drew ?_)))
       (case side2 => exact (Kd.R_reads' HO136.out).2.1)
       (case side3 => repeat (first | exact (Kd.R_reads' HO139.out).2.2 | (with_reducible refine Kd.C_alloc ?_ _) | (with_reducible refine Kd.C_drewN ?_ _) | (with_reducible refine Kd.C_drew ?_)))
       (case side4 => exact (Kd.R_reads' HO139.out).2.1)
       rintro e w85 ⟨rfl, hb⟩
       refine ⟨_, rfl, ?_⟩
       replace HO_127002 := vb HO_127002 hb
       replace HO_127003 := vb HO_127003 hb
       replace HO136 := Aside0.mk (Kd.R_below (by (with_reducible repeat (first | apply Kd.R_alloc | apply Kd.R_drewN | apply Kd.R_drew)); exact HO136.out) hb)
       replace HO139 := Aside0.mk (Kd.R_below (by (with_reducible repeat (first | apply Kd.R_alloc | apply Kd.R_drewN | apply Kd.R_drew)); exact HO139.out) hb)
       replace BK125 := Aside0.mk (blk_below (bo BK125) hb)
       replace BK126 := Aside0.mk (blk_below (bo BK126) hb)
       replace BK127 := Aside0.mk (blk_below (bo BK127) hb)
       replace BK128 := Aside0.mk (blk_below (bo BK128) hb)
       replace BK140 := Aside0.mk (blk_below (bo BK140) hb)
       replace HB := Aside0.mk (below_step (bl HB) hb)
       (try clear hb)
       (try clear hb2)
       (try clear hk)
       (try clear hi)
       refine hK.out _ _ ⟨(blk_cell BK126.out 0).trans rfl, (blk_cell BK126.out 1).trans rfl, (blk_cell BK126.out 2).trans rfl, (blk_cell BK126.out 3).trans rfl, (blk_cell BK125.out 0).trans rfl, (blk_cell BK125.out 1).trans rfl, (blk_cell BK125.out 2).trans rfl, (blk_cell BK125.out 3).trans rfl⟩ (fun hHeld => ?_)
       clear hK K
       refine norm_ (a' := ?_) ?_ ?_
       rotate_left
       ·show Act.put _ (some 44) _ = _
        simp only [Act.put, List.setIfInBounds_toArray, List.set_cons_zero, List.set_cons_succ, i64_w, i32_w]
        rfl
       refine pureA 3 46 HT_ ?_
       refine pureA 6 49 HT_ ?_
       refine pureA 7 42 HT_ ?_
       refine done_ (done_of HT_.out (by kernel_rfl)) ?_
       have hnb86 := NB125_126.out
       have hnc86 := NB126_125.out
       have hnb87 := NB125_127.out
       have hnc87 := NB127_125.out
       have hnb88 := NB125_128.out
       have hnc88 := NB128_125.out
       have hnb89 := NB125_140.out
       have hnc89 := NB140_125.out
       obtain ⟨hcz90_0, hcz90_1, hcz90_2, hcz90_3⟩ := ce4 BK125
       obtain ⟨hfz90_0, hfz90_1, hfz90_2, hfz90_3⟩ := fr4 BK125
       have hnb91 := NB140_126.out
       have hnc91 := NB126_140.out
       have hnb92 := NB140_127.out
       have hnc92 := NB127_140.out
       have hnb93 := NB140_128.out
       have hnc93 := NB128_140.out
       obtain ⟨hcz94_0, hcz94_1, hcz94_2, hcz94_3⟩ := ce4 BK140
       obtain ⟨hfz94_0, hfz94_1, hfz94_2, hfz94_3⟩ := fr4 BK140
       try go_wp2
       go_meet
       case rel => exact ⟨_, (t134), (false), (2199023255552), (.slice Ao61 t134.length co61), H', ⟨by have := HJ4.out; first | omega | exact Nat.le_refl _⟩, ⟨by (with_reducible repeat (first | apply Kd.R_alloc | apply Kd.R_drewN | apply Kd.R_drew)); exact Kd.R_mono (Kd.R_far (p := ⟨gb140, 2, none⟩) (Kd.R_types HO136.out BK140.out (by decide)) (fun _ hk => hk.2) (.int .i64 2199023255552)) (fun _ hk => hk.1.1)⟩, ⟨by (with_reducible repeat (first | apply Kd.R_alloc | apply Kd.R_drewN | apply Kd.R_drew)); exact Kd.R_mono (Kd.R_far (p := ⟨gb140, 2, none⟩) (Kd.R_types HO139.out BK140.out (by decide)) (fun _ hk => hk.2) (.int .i64 2199023255552)) (fun _ hk => hk.1.1)⟩, ⟨by (with_reducible repeat (first | refine blk_drewN ?_ _ | refine blk_drew ?_ | refine blk_alloc ?_ _)); refine blk_far ?_ NB125_140.out _; (with_reducible repeat (first | refine blk_drewN ?_ _ | refine blk_drew ?_ | refine blk_alloc ?_ _)); exact BK125.out⟩, ⟨by (with_reducible repeat (first | refine blk_drewN ?_ _ | refine blk_drew ?_ | refine blk_alloc ?_ _)); refine blk_far ?_ NB126_140.out _; (with_reducible repeat (first | refine blk_drewN ?_ _ | refine blk_drew ?_ | refine blk_alloc ?_ _)); exact BK126.out⟩, ⟨by (with_reducible repeat (first | refine blk_drewN ?_ _ | refine blk_drew ?_ | refine blk_alloc ?_ _)); refine blk_far ?_ NB127_140.out _; (with_reducible repeat (first | refine blk_drewN ?_ _ | refine blk_drew ?_ | refine blk_alloc ?_ _)); exact BK127.out⟩, ⟨by (with_reducible repeat (first | refine blk_drewN ?_ _ | refine blk_drew ?_ | refine blk_alloc ?_ _)); refine blk_far ?_ NB128_140.out _; (with_reducible repeat (first | refine blk_drewN ?_ _ | refine blk_drew ?_ | refine blk_alloc ?_ _)); exact BK128.out⟩, ⟨by (with_reducible repeat (first | refine blk_drewN ?_ _ | refine blk_drew ?_ | refine blk_alloc ?_ _)); refine blk_put (cs := #[.bool false, .int .i64 0, .int .i64 0, .int .i64 0]) ?_ 2 _ rfl; (with_reducible repeat (first | refine blk_drewN ?_ _ | refine blk_drew ?_ | refine blk_alloc ?_ _)); exact BK140.out⟩, ⟨bl HB⟩⟩
      ·rw [if_neg c83] at H
       have c83b0 : decide (a0_1 < a3) = false := decide_eq_false c83
       clear c83
       replace H := Option.bind_eq_some_iff.mp H
       obtain ⟨t145, A950, H⟩ := H
       have A95 := Aside0.mk A950
       clear A950
       have H' := Aside0.mk H
       clear H
       try go_wp2
       replace HO_127002 := Aside0.mk (Kd.V_drew HO_127002.out)
       replace HO_127003 := Aside0.mk (Kd.V_drew HO_127003.out)
       replace HO136 := Aside0.mk (Kd.R_drew HO136.out)
       replace HO139 := Aside0.mk (Kd.R_drew HO139.out)
       replace BK125 := Aside0.mk (blk_drew BK125.out)
       replace BK126 := Aside0.mk (blk_drew BK126.out)
       replace BK127 := Aside0.mk (blk_drew BK127.out)
       replace BK128 := Aside0.mk (blk_drew BK128.out)
       replace BK140 := Aside0.mk (blk_drew BK140.out)
       replace HB := Aside0.mk (below_drew1 HB.out)
       refine start_ (n := 8) (S := fun w' => w'.cell? ⟨gb126, 0, none⟩ = some (.int .i64 t132) ∧ w'.cell? ⟨gb126, 1, none⟩ = some (.int .i64 t133) ∧ w'.cell? ⟨gb126, 2, none⟩ = some (.slice Ao61 t134.length co61) ∧ w'.cell? ⟨gb126, 3, none⟩ = some (.slice Ao62 t137.length co62) ∧ w'.cell? ⟨gb125, 0, none⟩ = some (.int .i64 a0_0) ∧ w'.cell? ⟨gb125, 1, none⟩ = some (.int .i64 a0_1) ∧ w'.cell? ⟨gb125, 2, none⟩ = some (.int .i64 a0_2) ∧ w'.cell? ⟨gb125, 3, none⟩ = some (.int .i64 a0_3)) (ds := []) #[false, false, false, false, false, false, false, false] (by kernel_rfl) rfl rfl ⟨(blk_cell BK126.out 0).trans rfl, (blk_cell BK126.out 1).trans rfl, (blk_cell BK126.out 2).trans rfl, (blk_cell BK126.out 3).trans rfl, (blk_cell BK125.out 0).trans rfl, (blk_cell BK125.out 1).trans rfl, (blk_cell BK125.out 2).trans rfl, (blk_cell BK125.out 3).trans rfl⟩ (fun hHeld => ?_); refine with_tabW ring_Ask.tab6 ring_Ask.bits6 (fun HT_ HW_ => ?_)
       generalize w63.drew = w96 at HO_127002 HO_127003 HO136 HO139 BK125 BK126 BK127 BK128 BK140 HB hHeld ⊢
       refine pureA 2 45 HT_ ?_
       refine pureA 4 47 HT_ ?_
       refine takeA 0 43 HT_ HW_ hHeld ?_
       refine takeA 5 48 HT_ HW_ hHeld ?_
       refine one_ (i := 1) (N := some 44) #[true, true, true, false, true, true, false, false] rfl rfl (one_of HT_.out (by kernel_rfl)) (by decide) (fun K hK => ?_)
       refine goes_ Try.func24 (by kernel_rfl) rfl #[.agg #[.int .i64 t132, .int .i64 t133, .slice Ao61 t134.length co61, .slice Ao62 t137.length co62]] (by rfl) rfl rfl (by (try simp only [List.map_toArray, List.map_cons, List.map_nil]); first | done | rfl | (simp only [List.length_drop, List.length_take]; rfl)) ?_
       with_reducible refine (ring_total.calls kj4 t132 t133 _ _ t134 _ _ t137 t141 _ ?side1 ?side2 ?side3 ?side4 A64.out).mono ?_
       (case side1 => repeat (first | exact (Kd.R_reads' HO136.out).2.2 | (with_reducible refine Kd.C_alloc ?_ _) | (with_reducible refine Kd.C_drewN ?_ _) | (with_reducible refine Kd.C_drew ?_)))
       (case side2 => exact (Kd.R_reads' HO136.out).2.1)
       (case side3 => repeat (first | exact (Kd.R_reads' HO139.out).2.2 | (with_reducible refine Kd.C_alloc ?_ _) | (with_reducible refine Kd.C_drewN ?_ _) | (with_reducible refine Kd.C_drew ?_)))
       (case side4 => exact (Kd.R_reads' HO139.out).2.1)
       rintro e w97 ⟨rfl, hb⟩
       refine ⟨_, rfl, ?_⟩
       replace HO_127002 := vb HO_127002 hb
       replace HO_127003 := vb HO_127003 hb
       replace HO136 := Aside0.mk (Kd.R_below (by (with_reducible repeat (first | apply Kd.R_alloc | apply Kd.R_drewN | apply Kd.R_drew)); exact HO136.out) hb)
       replace HO139 := Aside0.mk (Kd.R_below (by (with_reducible repeat (first | apply Kd.R_alloc | apply Kd.R_drewN | apply Kd.R_drew)); exact HO139.out) hb)
       replace BK125 := Aside0.mk (blk_below (bo BK125) hb)
       replace BK126 := Aside0.mk (blk_below (bo BK126) hb)
       replace BK127 := Aside0.mk (blk_below (bo BK127) hb)
       replace BK128 := Aside0.mk (blk_below (bo BK128) hb)
       replace BK140 := Aside0.mk (blk_below (bo BK140) hb)
       replace HB := Aside0.mk (below_step (bl HB) hb)
       (try clear hb)
       (try clear hb2)
       (try clear hk)
       (try clear hi)
       refine hK.out _ _ ⟨(blk_cell BK126.out 0).trans rfl, (blk_cell BK126.out 1).trans rfl, (blk_cell BK126.out 2).trans rfl, (blk_cell BK126.out 3).trans rfl, (blk_cell BK125.out 0).trans rfl, (blk_cell BK125.out 1).trans rfl, (blk_cell BK125.out 2).trans rfl, (blk_cell BK125.out 3).trans rfl⟩ (fun hHeld => ?_)
       clear hK K
       refine norm_ (a' := ?_) ?_ ?_
       rotate_left
       ·show Act.put _ (some 44) _ = _
        simp only [Act.put, List.setIfInBounds_toArray, List.set_cons_zero, List.set_cons_succ, i64_w, i32_w]
        rfl
       refine pureA 3 46 HT_ ?_
       refine pureA 6 49 HT_ ?_
       refine pureA 7 42 HT_ ?_
       refine done_ (done_of HT_.out (by kernel_rfl)) ?_
       have hnb98 := NB125_126.out
       have hnc98 := NB126_125.out
       have hnb99 := NB125_127.out
       have hnc99 := NB127_125.out
       have hnb100 := NB125_128.out
       have hnc100 := NB128_125.out
       have hnb101 := NB125_140.out
       have hnc101 := NB140_125.out
       obtain ⟨hcz102_0, hcz102_1, hcz102_2, hcz102_3⟩ := ce4 BK125
       obtain ⟨hfz102_0, hfz102_1, hfz102_2, hfz102_3⟩ := fr4 BK125
       have hnb103 := NB126_127.out
       have hnc103 := NB127_126.out
       have hnb104 := NB126_128.out
       have hnc104 := NB128_126.out
       have hnb105 := NB126_140.out
       have hnc105 := NB140_126.out
       obtain ⟨hcz106_0, hcz106_1, hcz106_2, hcz106_3⟩ := ce4 BK126
       obtain ⟨hfz106_0, hfz106_1, hfz106_2, hfz106_3⟩ := fr4 BK126
       try go_wp2_with (first | ((with_reducible refine gate_callee (f := 26) rfl ?_); refine goesL_ (some 40) rfl rfl Try.func26 (by kernel_rfl) rfl #[.agg #[.int .i64 a0_0, .int .i64 a0_1, .int .i64 a0_2, .int .i64 a0_3], .agg #[.int .i64 t132, .int .i64 t133, .slice Ao61 t134.length co61, .slice Ao62 t137.length co62], .int .i64 (wrap64 (a0_1 - a3))] rfl (by (try simp only [List.map_toArray, List.map_cons, List.map_nil]); first | done | rfl | (simp only [List.length_drop, List.length_take]; rfl)) ?_; (with_reducible refine (ring_wait.calls kj4 a0_0 a0_1 a0_2 a0_3 t132 t133 _ _ t134 _ _ t137 (wrap64 (a0_1 - a3)) t145 _ ?side1 ?side2 ?side3 ?side4 A95.out).mono ?_); (case side1 => repeat (first | exact (Kd.R_reads' HO136.out).2.2 | (with_reducible refine Kd.C_alloc ?_ _) | (with_reducible refine Kd.C_drewN ?_ _) | (with_reducible refine Kd.C_drew ?_))); (case side2 => exact (Kd.R_reads' HO136.out).2.1); (case side3 => repeat (first | exact (Kd.R_reads' HO139.out).2.2 | (with_reducible refine Kd.C_alloc ?_ _) | (with_reducible refine Kd.C_drewN ?_ _) | (with_reducible refine Kd.C_drew ?_))); (case side4 => exact (Kd.R_reads' HO139.out).2.1); rintro e w107 ⟨rfl, hb⟩; refine ⟨_, rfl, ?_⟩; replace HO_127002 := vb HO_127002 hb; replace HO_127003 := vb HO_127003 hb; replace HO136 := Aside0.mk (Kd.R_below (by (with_reducible repeat (first | apply Kd.R_alloc | apply Kd.R_drewN | apply Kd.R_drew)); exact HO136.out) hb); replace HO139 := Aside0.mk (Kd.R_below (by (with_reducible repeat (first | apply Kd.R_alloc | apply Kd.R_drewN | apply Kd.R_drew)); exact HO139.out) hb); replace BK125 := Aside0.mk (blk_below (bo BK125) hb); replace BK126 := Aside0.mk (blk_below (bo BK126) hb); replace BK127 := Aside0.mk (blk_below (bo BK127) hb); replace BK128 := Aside0.mk (blk_below (bo BK128) hb); replace BK140 := Aside0.mk (blk_below (bo BK140) hb); replace HB := Aside0.mk (below_step (bl HB) hb); (try clear hb); (try clear hb2); (try clear hk); (try clear hi); have hnb108 := NB140_127.out; have hnc108 := NB127_140.out; have hnb109 := NB140_128.out; have hnc109 := NB128_140.out; obtain ⟨hcz110_0, hcz110_1, hcz110_2, hcz110_3⟩ := ce4 BK140; obtain ⟨hfz110_0, hfz110_1, hfz110_2, hfz110_3⟩ := fr4 BK140))
       go_meet
       case rel => exact ⟨_, (t134), (false), (t145), (.slice Ao61 t134.length co61), H', ⟨by have := HJ4.out; first | omega | exact Nat.le_refl _⟩, ⟨by (with_reducible repeat (first | apply Kd.R_alloc | apply Kd.R_drewN | apply Kd.R_drew)); exact Kd.R_mono (Kd.R_far (p := ⟨gb140, 2, none⟩) (Kd.R_types HO136.out BK140.out (by decide)) (fun _ hk => hk.2) (.int .i64 t145)) (fun _ hk => hk.1.1)⟩, ⟨by (with_reducible repeat (first | apply Kd.R_alloc | apply Kd.R_drewN | apply Kd.R_drew)); exact Kd.R_mono (Kd.R_far (p := ⟨gb140, 2, none⟩) (Kd.R_types HO139.out BK140.out (by decide)) (fun _ hk => hk.2) (.int .i64 t145)) (fun _ hk => hk.1.1)⟩, ⟨by (with_reducible repeat (first | refine blk_drewN ?_ _ | refine blk_drew ?_ | refine blk_alloc ?_ _)); refine blk_far ?_ NB125_140.out _; (with_reducible repeat (first | refine blk_drewN ?_ _ | refine blk_drew ?_ | refine blk_alloc ?_ _)); exact BK125.out⟩, ⟨by (with_reducible repeat (first | refine blk_drewN ?_ _ | refine blk_drew ?_ | refine blk_alloc ?_ _)); refine blk_far ?_ NB126_140.out _; (with_reducible repeat (first | refine blk_drewN ?_ _ | refine blk_drew ?_ | refine blk_alloc ?_ _)); exact BK126.out⟩, ⟨by (with_reducible repeat (first | refine blk_drewN ?_ _ | refine blk_drew ?_ | refine blk_alloc ?_ _)); refine blk_far ?_ NB127_140.out _; (with_reducible repeat (first | refine blk_drewN ?_ _ | refine blk_drew ?_ | refine blk_alloc ?_ _)); exact BK127.out⟩, ⟨by (with_reducible repeat (first | refine blk_drewN ?_ _ | refine blk_drew ?_ | refine blk_alloc ?_ _)); refine blk_far ?_ NB128_140.out _; (with_reducible repeat (first | refine blk_drewN ?_ _ | refine blk_drew ?_ | refine blk_alloc ?_ _)); exact BK128.out⟩, ⟨by (with_reducible repeat (first | refine blk_drewN ?_ _ | refine blk_drew ?_ | refine blk_alloc ?_ _)); refine blk_put (cs := #[.bool false, .int .i64 0, .int .i64 0, .int .i64 0]) ?_ 2 _ rfl; (with_reducible repeat (first | refine blk_drewN ?_ _ | refine blk_drew ?_ | refine blk_alloc ?_ _)); exact BK140.out⟩, ⟨bl HB⟩⟩
    case rest =>
     clear HC51
     try clear c65; try clear c65b0; try clear c69; try clear c70; try clear p71; try clear q71; try clear c83; try clear c83b0; try clear hcz102_0; try clear hcz102_1; try clear hcz102_2; try clear hcz102_3; try clear hcz106_0; try clear hcz106_1; try clear hcz106_2; try clear hcz106_3; try clear hcz110_0; try clear hcz110_1; try clear hcz110_2; try clear hcz110_3; try clear hcz90_0; try clear hcz90_1; try clear hcz90_2; try clear hcz90_3; try clear hcz94_0; try clear hcz94_1; try clear hcz94_2; try clear hcz94_3; try clear hfz102_0; try clear hfz102_1; try clear hfz102_2; try clear hfz102_3; try clear hfz106_0; try clear hfz106_1; try clear hfz106_2; try clear hfz106_3; try clear hfz110_0; try clear hfz110_1; try clear hfz110_2; try clear hfz110_3; try clear hfz90_0; try clear hfz90_1; try clear hfz90_2; try clear hfz90_3; try clear hfz94_0; try clear hfz94_1; try clear hfz94_2; try clear hfz94_3; try clear hx143_0; try clear hx71_0; try clear p143; try clear p71; try clear q143; try clear q71
     obtain ⟨kq, x127002_50, x141000_50, x141002_50, u127002, HA, HJ50, HO_127002, HO_127003, BK125, BK126, BK127, BK128, BK140, HB⟩ := hcut
     cases kq with
     | zero => exact absurd HA.out (by simp [ring_Ask.j1])
     | succ kj50 =>
      have H := HA.out
      clear HA
      simp only [ring_Ask.j1] at H
      replace H := Option.bind_eq_some_iff.mp H
      obtain ⟨t146, A1110, H⟩ := H
      have A111 := Aside0.mk A1110
      clear A1110
      replace H := Option.bind_eq_some_iff.mp H
      obtain ⟨t147, A1120, H⟩ := H
      have A112 := Aside0.mk A1120
      clear A1120
      simp only [Option.some.injEq, Prod.mk.injEq] at H
      obtain ⟨rfl, rfl, rfl, rfl, rfl, rfl, rfl, rfl⟩ := H
      try go_wp2
      replace HO_127002 := Aside0.mk (Kd.R_drew HO_127002.out)
      replace HO_127003 := Aside0.mk (Kd.R_drew HO_127003.out)
      replace BK125 := Aside0.mk (blk_drew BK125.out)
      replace BK126 := Aside0.mk (blk_drew BK126.out)
      replace BK127 := Aside0.mk (blk_drew BK127.out)
      replace BK128 := Aside0.mk (blk_drew BK128.out)
      replace BK140 := Aside0.mk (blk_drew BK140.out)
      replace HB := Aside0.mk (below_drew1 HB.out)
      obtain ⟨Ao114, co114, eo114⟩ := Kd.R_slice HO_127002.out
      (first | subst eo114 | (injection eo114 with f1_ f2_ f3_; have f4_ := f1_.symm; have f5_ := f3_.symm; clear f1_ f2_ f3_; subst f4_; subst f5_))
      refine start_ (n := 7) (S := fun w' => w'.cell? ⟨gb125, 0, none⟩ = some (.int .i64 a0_0) ∧ w'.cell? ⟨gb125, 1, none⟩ = some (.int .i64 a0_1) ∧ w'.cell? ⟨gb125, 2, none⟩ = some (.int .i64 a0_2) ∧ w'.cell? ⟨gb125, 3, none⟩ = some (.int .i64 a0_3) ∧ w'.cell? ⟨gb126, 0, none⟩ = some (.int .i64 t132) ∧ w'.cell? ⟨gb126, 1, none⟩ = some (.int .i64 t133) ∧ w'.cell? ⟨gb126, 2, none⟩ = some (.slice Ao114 x127002_50.length co114) ∧ w'.cell? ⟨gb126, 3, none⟩ = some (.slice Ao62 t137.length co62)) (ds := []) #[false, false, false, false, false, false, false] (by kernel_rfl) rfl rfl ⟨(blk_cell BK125.out 0).trans rfl, (blk_cell BK125.out 1).trans rfl, (blk_cell BK125.out 2).trans rfl, (blk_cell BK125.out 3).trans rfl, (blk_cell BK126.out 0).trans rfl, (blk_cell BK126.out 1).trans rfl, (blk_cell BK126.out 2).trans rfl, (blk_cell BK126.out 3).trans rfl⟩ (fun hHeld => ?_)
      generalize wc.drew = w113 at HO_127002 HO_127003 BK125 BK126 BK127 BK128 BK140 HB hHeld ⊢
      refine pureB 0 71 ?_
      refine takeB' 1 72 hHeld ?_
      refine takeB' 2 73 hHeld ?_
      refine one_ (i := 3) (N := some 74) #[true, true, true, true, false, false, false] rfl rfl (by kernel_rfl) (by decide) (fun K hK => ?_)
      refine goes_ Try.func24 (by kernel_rfl) rfl #[.agg #[.int .i64 t132, .int .i64 t133, .slice Ao114 x127002_50.length co114, .slice Ao62 t137.length co62]] (by rfl) rfl rfl (by (try simp only [List.map_toArray, List.map_cons, List.map_nil]); first | done | rfl | (simp only [List.length_drop, List.length_take]; rfl)) ?_
      with_reducible refine (ring_total.calls kj50 t132 t133 _ _ x127002_50 _ _ t137 t146 _ ?side1 ?side2 ?side3 ?side4 A111.out).mono ?_
      (case side1 => repeat (first | exact (Kd.R_reads' HO_127002.out).2.2 | (with_reducible refine Kd.C_alloc ?_ _) | (with_reducible refine Kd.C_drewN ?_ _) | (with_reducible refine Kd.C_drew ?_)))
      (case side2 => exact (Kd.R_reads' HO_127002.out).2.1)
      (case side3 => repeat (first | exact (Kd.R_reads' HO_127003.out).2.2 | (with_reducible refine Kd.C_alloc ?_ _) | (with_reducible refine Kd.C_drewN ?_ _) | (with_reducible refine Kd.C_drew ?_)))
      (case side4 => exact (Kd.R_reads' HO_127003.out).2.1)
      rintro e w115 ⟨rfl, hb⟩
      refine ⟨_, rfl, ?_⟩
      replace HO_127002 := Aside0.mk (Kd.R_below (by (with_reducible repeat (first | apply Kd.R_alloc | apply Kd.R_drewN | apply Kd.R_drew)); exact HO_127002.out) hb)
      replace HO_127003 := Aside0.mk (Kd.R_below (by (with_reducible repeat (first | apply Kd.R_alloc | apply Kd.R_drewN | apply Kd.R_drew)); exact HO_127003.out) hb)
      replace BK125 := Aside0.mk (blk_below (bo BK125) hb)
      replace BK126 := Aside0.mk (blk_below (bo BK126) hb)
      replace BK127 := Aside0.mk (blk_below (bo BK127) hb)
      replace BK128 := Aside0.mk (blk_below (bo BK128) hb)
      replace BK140 := Aside0.mk (blk_below (bo BK140) hb)
      replace HB := Aside0.mk (below_step (bl HB) hb)
      (try clear hb)
      (try clear hb2)
      (try clear hk)
      (try clear hi)
      refine hK.out _ _ ⟨(blk_cell BK125.out 0).trans rfl, (blk_cell BK125.out 1).trans rfl, (blk_cell BK125.out 2).trans rfl, (blk_cell BK125.out 3).trans rfl, (blk_cell BK126.out 0).trans rfl, (blk_cell BK126.out 1).trans rfl, (blk_cell BK126.out 2).trans rfl, (blk_cell BK126.out 3).trans rfl⟩ (fun hHeld => ?_)
      clear hK K
      refine norm_ (a' := ?_) ?_ ?_
      rotate_left
      ·show Act.put _ (some 74) _ = _
       simp only [Act.put, List.setIfInBounds_toArray, List.set_cons_zero, List.set_cons_succ, i64_w, i32_w]
       rfl
      refine pureB 4 75 ?_
      refine pureB 5 76 ?_
      refine one_ (i := 6) (N := none) #[true, true, true, true, true, true, true] rfl rfl (by kernel_rfl) (by decide) (fun K hK => ?_)
      have hs116 : w115.cell? ⟨gb140, 1, none⟩ = some (.int .i64 0) := (blk_cell BK140.out 1).trans rfl
      have hfs116 := blk_frozen BK140.out 1
      have hns116_0 := NB125_140.out
      have hns116_1 := NB126_140.out
      have hns116_2 := NB127_140.out
      have hns116_3 := NB128_140.out
      have hms116_0 := NB140_125.out
      have hms116_1 := NB140_126.out
      have hms116_2 := NB140_127.out
      have hms116_3 := NB140_128.out
      refine skip_ (w1 := ?_) (by rfl) rfl ?_ ?_
      rotate_left
      ·go_simp
       rfl
      refine hK.out _ _ ⟨((cell_far (p := ⟨gb140, _, none⟩) NB125_140.out _).trans (hHeld.1)), ((cell_far (p := ⟨gb140, _, none⟩) NB125_140.out _).trans (hHeld.2.1)), ((cell_far (p := ⟨gb140, _, none⟩) NB125_140.out _).trans (hHeld.2.2.1)), ((cell_far (p := ⟨gb140, _, none⟩) NB125_140.out _).trans (hHeld.2.2.2.1)), ((cell_far (p := ⟨gb140, _, none⟩) NB126_140.out _).trans (hHeld.2.2.2.2.1)), ((cell_far (p := ⟨gb140, _, none⟩) NB126_140.out _).trans (hHeld.2.2.2.2.2.1)), ((cell_far (p := ⟨gb140, _, none⟩) NB126_140.out _).trans (hHeld.2.2.2.2.2.2.1)), ((cell_far (p := ⟨gb140, _, none⟩) NB126_140.out _).trans (hHeld.2.2.2.2.2.2.2))⟩ (fun hHeld => ?_)
      clear hK K
      refine done_ (by kernel_rfl) ?_
      have hnb117 := NB125_126.out
      have hnc117 := NB126_125.out
      have hnb118 := NB125_127.out
      have hnc118 := NB127_125.out
      have hnb119 := NB125_128.out
      have hnc119 := NB128_125.out
      have hnb120 := NB125_140.out
      have hnc120 := NB140_125.out
      obtain ⟨hcz121_0, hcz121_1, hcz121_2, hcz121_3⟩ := ce4 BK125
      obtain ⟨hfz121_0, hfz121_1, hfz121_2, hfz121_3⟩ := fr4 BK125
      have hnb122 := NB126_127.out
      have hnc122 := NB127_126.out
      have hnb123 := NB126_128.out
      have hnc123 := NB128_126.out
      have hnb124 := NB126_140.out
      have hnc124 := NB140_126.out
      obtain ⟨hcz125_0, hcz125_1, hcz125_2, hcz125_3⟩ := ce4 BK126
      obtain ⟨hfz125_0, hfz125_1, hfz125_2, hfz125_3⟩ := fr4 BK126
      try go_wp2_with (first | ((with_reducible refine gate_callee (f := 26) rfl ?_); refine goesL_ (some 79) rfl rfl Try.func26 (by kernel_rfl) rfl #[.agg #[.int .i64 a0_0, .int .i64 a0_1, .int .i64 a0_2, .int .i64 a0_3], .agg #[.int .i64 t132, .int .i64 t133, .slice Ao114 x127002_50.length co114, .slice Ao62 t137.length co62], .int .i64 0] rfl (by (try simp only [List.map_toArray, List.map_cons, List.map_nil]); first | done | rfl | (simp only [List.length_drop, List.length_take]; rfl)) ?_; (with_reducible refine (ring_wait.calls kj50 a0_0 a0_1 a0_2 a0_3 t132 t133 _ _ x127002_50 _ _ t137 0 t147 _ ?side1 ?side2 ?side3 ?side4 A112.out).mono ?_); (case side1 => refine (Kd.R_reads' (e := 3) (base := w.heap.size) (ok := fun k_ => (w.heap.size ≤ k_)) (n := x127002_50.length) (c := co114) ?_).2.2; exact (by (with_reducible repeat (first | apply Kd.R_alloc | apply Kd.R_drewN | apply Kd.R_drew)); exact (Kd.R_mono (Kd.R_far (p := ⟨gb140, 1, none⟩) (Kd.R_types HO_127002.out BK140.out (by decide)) (fun _ hk => hk.2) (.int .i64 (wrap64 (a0_1 - t146)))) (fun _ h_ => h_.1)))); (case side2 => exact (Kd.R_reads' HO_127002.out).2.1); (case side3 => refine (Kd.R_reads' (e := 54) (base := w.heap.size) (ok := fun k_ => (w.heap.size ≤ k_)) (n := t137.length) (c := co62) ?_).2.2; exact (by (with_reducible repeat (first | apply Kd.R_alloc | apply Kd.R_drewN | apply Kd.R_drew)); exact (Kd.R_mono (Kd.R_far (p := ⟨gb140, 1, none⟩) (Kd.R_types HO_127003.out BK140.out (by decide)) (fun _ hk => hk.2) (.int .i64 (wrap64 (a0_1 - t146)))) (fun _ h_ => h_.1)))); (case side4 => exact (Kd.R_reads' HO_127003.out).2.1); rintro e w126 ⟨rfl, hb⟩; refine ⟨_, rfl, ?_⟩; replace HO_127002 := Aside0.mk (Kd.R_below (by (with_reducible repeat (first | apply Kd.R_alloc | apply Kd.R_drewN | apply Kd.R_drew)); exact (Kd.R_mono (Kd.R_far (p := ⟨gb140, 1, none⟩) (Kd.R_types HO_127002.out BK140.out (by decide)) (fun _ hk => hk.2) (.int .i64 (wrap64 (a0_1 - t146)))) (fun _ h_ => h_.1))) hb); replace HO_127003 := Aside0.mk (Kd.R_below (by (with_reducible repeat (first | apply Kd.R_alloc | apply Kd.R_drewN | apply Kd.R_drew)); exact (Kd.R_mono (Kd.R_far (p := ⟨gb140, 1, none⟩) (Kd.R_types HO_127003.out BK140.out (by decide)) (fun _ hk => hk.2) (.int .i64 (wrap64 (a0_1 - t146)))) (fun _ h_ => h_.1))) hb); replace BK125 := Aside0.mk (blk_below (g := gb125) (o := .cells #[.int .i64 a0_0, .int .i64 a0_1, .int .i64 a0_2, .int .i64 a0_3] 23 (0, 0)) (by (with_reducible repeat (first | refine blk_drewN ?_ _ | refine blk_drew ?_ | refine blk_alloc ?_ _)); refine blk_far ?_ NB125_140.out _; (with_reducible repeat (first | refine blk_drewN ?_ _ | refine blk_drew ?_ | refine blk_alloc ?_ _)); exact BK125.out) hb); replace BK126 := Aside0.mk (blk_below (g := gb126) (o := .cells #[.int .i64 t132, .int .i64 t133, .slice Ao114 x127002_50.length co114, .slice Ao62 t137.length co62] 27 (0, 0)) (by (with_reducible repeat (first | refine blk_drewN ?_ _ | refine blk_drew ?_ | refine blk_alloc ?_ _)); refine blk_far ?_ NB126_140.out _; (with_reducible repeat (first | refine blk_drewN ?_ _ | refine blk_drew ?_ | refine blk_alloc ?_ _)); exact BK126.out) hb); replace BK127 := Aside0.mk (blk_below (g := gb127) (o := .cells #[.int .i64 0, .int .i64 0, .slice none 0 0, .slice none 0 0] 27 (0, 0)) (by (with_reducible repeat (first | refine blk_drewN ?_ _ | refine blk_drew ?_ | refine blk_alloc ?_ _)); refine blk_far ?_ NB127_140.out _; (with_reducible repeat (first | refine blk_drewN ?_ _ | refine blk_drew ?_ | refine blk_alloc ?_ _)); exact BK127.out) hb); replace BK128 := Aside0.mk (blk_below (g := gb128) (o := .cells #[.bool false, .int .i64 0, .int .i64 0, .int .i64 0] 32 (0, 0)) (by (with_reducible repeat (first | refine blk_drewN ?_ _ | refine blk_drew ?_ | refine blk_alloc ?_ _)); refine blk_far ?_ NB128_140.out _; (with_reducible repeat (first | refine blk_drewN ?_ _ | refine blk_drew ?_ | refine blk_alloc ?_ _)); exact BK128.out) hb); replace BK140 := Aside0.mk (blk_below (g := gb140) (o := .cells #[.bool x141000_50, .int .i64 (wrap64 (a0_1 - t146)), .int .i64 x141002_50, .int .i64 0] 32 (0, 0)) (by (with_reducible repeat (first | refine blk_drewN ?_ _ | refine blk_drew ?_ | refine blk_alloc ?_ _)); refine blk_put (cs := #[.bool x141000_50, .int .i64 0, .int .i64 x141002_50, .int .i64 0]) ?_ 1 _ rfl; (with_reducible repeat (first | refine blk_drewN ?_ _ | refine blk_drew ?_ | refine blk_alloc ?_ _)); exact BK140.out) hb); replace HB := Aside0.mk (below_step (bl HB) hb); (try clear hb); (try clear hb2); (try clear hk); (try clear hi); have hnb127 := NB140_127.out; have hnc127 := NB127_140.out; have hnb128 := NB140_128.out; have hnc128 := NB128_140.out; obtain ⟨hcz129_0, hcz129_1, hcz129_2, hcz129_3⟩ := ce4 BK140; obtain ⟨hfz129_0, hfz129_1, hfz129_2, hfz129_3⟩ := fr4 BK140))
      have n0_ : Aside0 (Kd.R (Kd.int .i64) 3 (w126.setCell ⟨gb140, 3, none⟩ (.int .i64 t147)) w.heap.size (fun k_ => (w.heap.size ≤ k_)) (.slice Ao114 x127002_50.length co114) x127002_50) := ⟨by (with_reducible repeat (first | apply Kd.R_alloc | apply Kd.R_drewN | apply Kd.R_drew)); exact Kd.R_mono (Kd.R_far (p := ⟨gb140, 3, none⟩) (Kd.R_types HO_127002.out BK140.out (by decide)) (fun _ hk => hk.2) (.int .i64 t147)) (fun _ hk => hk.1)⟩
      have n1_ : Aside0 (Kd.R k54 54 (w126.setCell ⟨gb140, 3, none⟩ (.int .i64 t147)) w.heap.size (fun k_ => (w.heap.size ≤ k_)) (.slice Ao62 t137.length co62) t137) := ⟨by (with_reducible repeat (first | apply Kd.R_alloc | apply Kd.R_drewN | apply Kd.R_drew)); exact Kd.R_mono (Kd.R_far (p := ⟨gb140, 3, none⟩) (Kd.R_types HO_127003.out BK140.out (by decide)) (fun _ hk => hk.2) (.int .i64 t147)) (fun _ hk => hk.1)⟩
      have n2_ : Aside0 ((w126.setCell ⟨gb140, 3, none⟩ (.int .i64 t147)).heap[gb125]? = some (.cells #[.int .i64 a0_0, .int .i64 a0_1, .int .i64 a0_2, .int .i64 a0_3] 23 (0, 0))) := ⟨by (with_reducible repeat (first | refine blk_drewN ?_ _ | refine blk_drew ?_ | refine blk_alloc ?_ _)); refine blk_far ?_ NB125_140.out _; (with_reducible repeat (first | refine blk_drewN ?_ _ | refine blk_drew ?_ | refine blk_alloc ?_ _)); exact BK125.out⟩
      have n3_ : Aside0 ((w126.setCell ⟨gb140, 3, none⟩ (.int .i64 t147)).heap[gb126]? = some (.cells #[.int .i64 t132, .int .i64 t133, .slice Ao114 x127002_50.length co114, .slice Ao62 t137.length co62] 27 (0, 0))) := ⟨by (with_reducible repeat (first | refine blk_drewN ?_ _ | refine blk_drew ?_ | refine blk_alloc ?_ _)); refine blk_far ?_ NB126_140.out _; (with_reducible repeat (first | refine blk_drewN ?_ _ | refine blk_drew ?_ | refine blk_alloc ?_ _)); exact BK126.out⟩
      have n4_ : Aside0 ((w126.setCell ⟨gb140, 3, none⟩ (.int .i64 t147)).heap[gb127]? = some (.cells #[.int .i64 0, .int .i64 0, .slice none 0 0, .slice none 0 0] 27 (0, 0))) := ⟨by (with_reducible repeat (first | refine blk_drewN ?_ _ | refine blk_drew ?_ | refine blk_alloc ?_ _)); refine blk_far ?_ NB127_140.out _; (with_reducible repeat (first | refine blk_drewN ?_ _ | refine blk_drew ?_ | refine blk_alloc ?_ _)); exact BK127.out⟩
      have n5_ : Aside0 ((w126.setCell ⟨gb140, 3, none⟩ (.int .i64 t147)).heap[gb128]? = some (.cells #[.bool false, .int .i64 0, .int .i64 0, .int .i64 0] 32 (0, 0))) := ⟨by (with_reducible repeat (first | refine blk_drewN ?_ _ | refine blk_drew ?_ | refine blk_alloc ?_ _)); refine blk_far ?_ NB128_140.out _; (with_reducible repeat (first | refine blk_drewN ?_ _ | refine blk_drew ?_ | refine blk_alloc ?_ _)); exact BK128.out⟩
      have n6_ : Aside0 ((w126.setCell ⟨gb140, 3, none⟩ (.int .i64 t147)).heap[gb140]? = some (.cells #[.bool x141000_50, .int .i64 (wrap64 (a0_1 - t146)), .int .i64 x141002_50, .int .i64 t147] 32 (0, 0))) := ⟨by (with_reducible repeat (first | refine blk_drewN ?_ _ | refine blk_drew ?_ | refine blk_alloc ?_ _)); refine blk_put (cs := #[.bool x141000_50, .int .i64 (wrap64 (a0_1 - t146)), .int .i64 x141002_50, .int .i64 0]) ?_ 3 _ rfl; (with_reducible repeat (first | refine blk_drewN ?_ _ | refine blk_drew ?_ | refine blk_alloc ?_ _)); exact BK140.out⟩
      have n7_ : Aside0 (Below w.heap.size w (w126.setCell ⟨gb140, 3, none⟩ (.int .i64 t147))) := ⟨bl HB⟩
      (try clear HO_127002)
      (try clear HO_127003)
      (try clear BK125)
      (try clear BK126)
      (try clear BK127)
      (try clear BK128)
      (try clear BK140)
      (try clear HB)
      generalize (w126.setCell ⟨gb140, 3, none⟩ (.int .i64 t147)) = w130 at n0_ n1_ n2_ n3_ n4_ n5_ n6_ n7_ ⊢
      have HO_127002 := n0_
      have HO_127003 := n1_
      have BK125 := n2_
      have BK126 := n3_
      have BK127 := n4_
      have BK128 := n5_
      have BK140 := n6_
      have HB := n7_
      clear n0_ n1_ n2_ n3_ n4_ n5_ n6_ n7_
      replace HO_127002 := Aside0.mk (Kd.R_drew HO_127002.out)
      replace HO_127003 := Aside0.mk (Kd.R_drew HO_127003.out)
      replace BK125 := Aside0.mk (blk_drew BK125.out)
      replace BK126 := Aside0.mk (blk_drew BK126.out)
      replace BK127 := Aside0.mk (blk_drew BK127.out)
      replace BK128 := Aside0.mk (blk_drew BK128.out)
      replace BK140 := Aside0.mk (blk_drew BK140.out)
      replace HB := Aside0.mk (below_drew1 HB.out)
      refine start_ (n := 4) (S := fun w' => w'.cell? ⟨gb126, 0, none⟩ = some (.int .i64 t132) ∧ w'.cell? ⟨gb126, 1, none⟩ = some (.int .i64 t133) ∧ w'.cell? ⟨gb126, 2, none⟩ = some (.slice Ao114 x127002_50.length co114) ∧ w'.cell? ⟨gb126, 3, none⟩ = some (.slice Ao62 t137.length co62) ∧ w'.cell? ⟨gb140, 0, none⟩ = some (.bool x141000_50) ∧ w'.cell? ⟨gb140, 1, none⟩ = some (.int .i64 (wrap64 (a0_1 - t146))) ∧ w'.cell? ⟨gb140, 2, none⟩ = some (.int .i64 x141002_50) ∧ w'.cell? ⟨gb140, 3, none⟩ = some (.int .i64 t147)) (ds := []) #[false, false, false, false] (by kernel_rfl) rfl rfl ⟨(blk_cell BK126.out 0).trans rfl, (blk_cell BK126.out 1).trans rfl, (blk_cell BK126.out 2).trans rfl, (blk_cell BK126.out 3).trans rfl, (blk_cell BK140.out 0).trans rfl, (blk_cell BK140.out 1).trans rfl, (blk_cell BK140.out 2).trans rfl, (blk_cell BK140.out 3).trans rfl⟩ (fun hHeld => ?_)
      generalize w130.drew = w131 at HO_127002 HO_127003 BK125 BK126 BK127 BK128 BK140 HB hHeld ⊢
      refine takeB' 0 81 hHeld ?_
      refine takeB' 1 82 hHeld ?_
      refine one_ (i := 2) (N := none) #[true, true, true, false] rfl rfl (by kernel_rfl) (by decide) (fun K hK => ?_)
      have hs132 : w131.cell? ⟨gb127, 0, none⟩ = some (.int .i64 0) := (blk_cell BK127.out 0).trans rfl
      have hfs132 := blk_frozen BK127.out 0
      have hns132_0 := NB125_127.out
      have hns132_1 := NB126_127.out
      have hns132_3 := NB128_127.out
      have hns132_4 := NB140_127.out
      have hms132_0 := NB127_125.out
      have hms132_1 := NB127_126.out
      have hms132_3 := NB127_128.out
      have hms132_4 := NB127_140.out
      have hs133 : w131.cell? ⟨gb127, 1, none⟩ = some (.int .i64 0) := (blk_cell BK127.out 1).trans rfl
      have hfs133 := blk_frozen BK127.out 1
      have hns133_0 := NB125_127.out
      have hns133_1 := NB126_127.out
      have hns133_3 := NB128_127.out
      have hns133_4 := NB140_127.out
      have hms133_0 := NB127_125.out
      have hms133_1 := NB127_126.out
      have hms133_3 := NB127_128.out
      have hms133_4 := NB127_140.out
      have hs134 : w131.cell? ⟨gb127, 2, none⟩ = some (.slice none 0 0) := (blk_cell BK127.out 2).trans rfl
      have hfs134 := blk_frozen BK127.out 2
      have hns134_0 := NB125_127.out
      have hns134_1 := NB126_127.out
      have hns134_3 := NB128_127.out
      have hns134_4 := NB140_127.out
      have hms134_0 := NB127_125.out
      have hms134_1 := NB127_126.out
      have hms134_3 := NB127_128.out
      have hms134_4 := NB127_140.out
      have hs135 : w131.cell? ⟨gb127, 3, none⟩ = some (.slice none 0 0) := (blk_cell BK127.out 3).trans rfl
      have hfs135 := blk_frozen BK127.out 3
      have hns135_0 := NB125_127.out
      have hns135_1 := NB126_127.out
      have hns135_3 := NB128_127.out
      have hns135_4 := NB140_127.out
      have hms135_0 := NB127_125.out
      have hms135_1 := NB127_126.out
      have hms135_3 := NB127_128.out
      have hms135_4 := NB127_140.out
      refine skip_ (w1 := ?_) (by rfl) rfl ?_ ?_
      rotate_left
      ·go_simp
       rfl
      refine hK.out _ _ ⟨((cell_far (p := ⟨gb127, _, none⟩) NB126_127.out _).trans (((cell_far (p := ⟨gb127, _, none⟩) NB126_127.out _).trans (((cell_far (p := ⟨gb127, _, none⟩) NB126_127.out _).trans (((cell_far (p := ⟨gb127, _, none⟩) NB126_127.out _).trans (hHeld.1)))))))), ((cell_far (p := ⟨gb127, _, none⟩) NB126_127.out _).trans (((cell_far (p := ⟨gb127, _, none⟩) NB126_127.out _).trans (((cell_far (p := ⟨gb127, _, none⟩) NB126_127.out _).trans (((cell_far (p := ⟨gb127, _, none⟩) NB126_127.out _).trans (hHeld.2.1)))))))), ((cell_far (p := ⟨gb127, _, none⟩) NB126_127.out _).trans (((cell_far (p := ⟨gb127, _, none⟩) NB126_127.out _).trans (((cell_far (p := ⟨gb127, _, none⟩) NB126_127.out _).trans (((cell_far (p := ⟨gb127, _, none⟩) NB126_127.out _).trans (hHeld.2.2.1)))))))), ((cell_far (p := ⟨gb127, _, none⟩) NB126_127.out _).trans (((cell_far (p := ⟨gb127, _, none⟩) NB126_127.out _).trans (((cell_far (p := ⟨gb127, _, none⟩) NB126_127.out _).trans (((cell_far (p := ⟨gb127, _, none⟩) NB126_127.out _).trans (hHeld.2.2.2.1)))))))), ((cell_far (p := ⟨gb127, _, none⟩) NB140_127.out _).trans (((cell_far (p := ⟨gb127, _, none⟩) NB140_127.out _).trans (((cell_far (p := ⟨gb127, _, none⟩) NB140_127.out _).trans (((cell_far (p := ⟨gb127, _, none⟩) NB140_127.out _).trans (hHeld.2.2.2.2.1)))))))), ((cell_far (p := ⟨gb127, _, none⟩) NB140_127.out _).trans (((cell_far (p := ⟨gb127, _, none⟩) NB140_127.out _).trans (((cell_far (p := ⟨gb127, _, none⟩) NB140_127.out _).trans (((cell_far (p := ⟨gb127, _, none⟩) NB140_127.out _).trans (hHeld.2.2.2.2.2.1)))))))), ((cell_far (p := ⟨gb127, _, none⟩) NB140_127.out _).trans (((cell_far (p := ⟨gb127, _, none⟩) NB140_127.out _).trans (((cell_far (p := ⟨gb127, _, none⟩) NB140_127.out _).trans (((cell_far (p := ⟨gb127, _, none⟩) NB140_127.out _).trans (hHeld.2.2.2.2.2.2.1)))))))), ((cell_far (p := ⟨gb127, _, none⟩) NB140_127.out _).trans (((cell_far (p := ⟨gb127, _, none⟩) NB140_127.out _).trans (((cell_far (p := ⟨gb127, _, none⟩) NB140_127.out _).trans (((cell_far (p := ⟨gb127, _, none⟩) NB140_127.out _).trans (hHeld.2.2.2.2.2.2.2))))))))⟩ (fun hHeld => ?_)
      clear hK K
      refine one_ (i := 3) (N := none) #[true, true, true, true] rfl rfl (by kernel_rfl) (by decide) (fun K hK => ?_)
      have hs136 : w131.cell? ⟨gb128, 0, none⟩ = some (.bool false) := (blk_cell BK128.out 0).trans rfl
      have hfs136 := blk_frozen BK128.out 0
      have hns136_0 := NB125_128.out
      have hns136_1 := NB126_128.out
      have hns136_2 := NB127_128.out
      have hns136_4 := NB140_128.out
      have hms136_0 := NB128_125.out
      have hms136_1 := NB128_126.out
      have hms136_2 := NB128_127.out
      have hms136_4 := NB128_140.out
      have hs137 : w131.cell? ⟨gb128, 1, none⟩ = some (.int .i64 0) := (blk_cell BK128.out 1).trans rfl
      have hfs137 := blk_frozen BK128.out 1
      have hns137_0 := NB125_128.out
      have hns137_1 := NB126_128.out
      have hns137_2 := NB127_128.out
      have hns137_4 := NB140_128.out
      have hms137_0 := NB128_125.out
      have hms137_1 := NB128_126.out
      have hms137_2 := NB128_127.out
      have hms137_4 := NB128_140.out
      have hs138 : w131.cell? ⟨gb128, 2, none⟩ = some (.int .i64 0) := (blk_cell BK128.out 2).trans rfl
      have hfs138 := blk_frozen BK128.out 2
      have hns138_0 := NB125_128.out
      have hns138_1 := NB126_128.out
      have hns138_2 := NB127_128.out
      have hns138_4 := NB140_128.out
      have hms138_0 := NB128_125.out
      have hms138_1 := NB128_126.out
      have hms138_2 := NB128_127.out
      have hms138_4 := NB128_140.out
      have hs139 : w131.cell? ⟨gb128, 3, none⟩ = some (.int .i64 0) := (blk_cell BK128.out 3).trans rfl
      have hfs139 := blk_frozen BK128.out 3
      have hns139_0 := NB125_128.out
      have hns139_1 := NB126_128.out
      have hns139_2 := NB127_128.out
      have hns139_4 := NB140_128.out
      have hms139_0 := NB128_125.out
      have hms139_1 := NB128_126.out
      have hms139_2 := NB128_127.out
      have hms139_4 := NB128_140.out
      refine skip_ (w1 := ?_) (by rfl) rfl ?_ ?_
      rotate_left
      ·go_simp
       rfl
      refine hK.out _ _ ⟨((cell_far (p := ⟨gb128, _, none⟩) NB126_128.out _).trans (((cell_far (p := ⟨gb128, _, none⟩) NB126_128.out _).trans (((cell_far (p := ⟨gb128, _, none⟩) NB126_128.out _).trans (((cell_far (p := ⟨gb128, _, none⟩) NB126_128.out _).trans (hHeld.1)))))))), ((cell_far (p := ⟨gb128, _, none⟩) NB126_128.out _).trans (((cell_far (p := ⟨gb128, _, none⟩) NB126_128.out _).trans (((cell_far (p := ⟨gb128, _, none⟩) NB126_128.out _).trans (((cell_far (p := ⟨gb128, _, none⟩) NB126_128.out _).trans (hHeld.2.1)))))))), ((cell_far (p := ⟨gb128, _, none⟩) NB126_128.out _).trans (((cell_far (p := ⟨gb128, _, none⟩) NB126_128.out _).trans (((cell_far (p := ⟨gb128, _, none⟩) NB126_128.out _).trans (((cell_far (p := ⟨gb128, _, none⟩) NB126_128.out _).trans (hHeld.2.2.1)))))))), ((cell_far (p := ⟨gb128, _, none⟩) NB126_128.out _).trans (((cell_far (p := ⟨gb128, _, none⟩) NB126_128.out _).trans (((cell_far (p := ⟨gb128, _, none⟩) NB126_128.out _).trans (((cell_far (p := ⟨gb128, _, none⟩) NB126_128.out _).trans (hHeld.2.2.2.1)))))))), ((cell_far (p := ⟨gb128, _, none⟩) NB140_128.out _).trans (((cell_far (p := ⟨gb128, _, none⟩) NB140_128.out _).trans (((cell_far (p := ⟨gb128, _, none⟩) NB140_128.out _).trans (((cell_far (p := ⟨gb128, _, none⟩) NB140_128.out _).trans (hHeld.2.2.2.2.1)))))))), ((cell_far (p := ⟨gb128, _, none⟩) NB140_128.out _).trans (((cell_far (p := ⟨gb128, _, none⟩) NB140_128.out _).trans (((cell_far (p := ⟨gb128, _, none⟩) NB140_128.out _).trans (((cell_far (p := ⟨gb128, _, none⟩) NB140_128.out _).trans (hHeld.2.2.2.2.2.1)))))))), ((cell_far (p := ⟨gb128, _, none⟩) NB140_128.out _).trans (((cell_far (p := ⟨gb128, _, none⟩) NB140_128.out _).trans (((cell_far (p := ⟨gb128, _, none⟩) NB140_128.out _).trans (((cell_far (p := ⟨gb128, _, none⟩) NB140_128.out _).trans (hHeld.2.2.2.2.2.2.1)))))))), ((cell_far (p := ⟨gb128, _, none⟩) NB140_128.out _).trans (((cell_far (p := ⟨gb128, _, none⟩) NB140_128.out _).trans (((cell_far (p := ⟨gb128, _, none⟩) NB140_128.out _).trans (((cell_far (p := ⟨gb128, _, none⟩) NB140_128.out _).trans (hHeld.2.2.2.2.2.2.2))))))))⟩ (fun hHeld => ?_)
      clear hK K
      refine done_ (by kernel_rfl) ?_
      try go_wp2
      refine bodyPost_ret (results_cc rfl _ _ gb127 gb128 27 32 #[.int .i64 t132, .int .i64 t133, .slice Ao114 x127002_50.length co114, .slice Ao62 t137.length co62] #[.bool x141000_50, .int .i64 (wrap64 (a0_1 - t146)), .int .i64 x141002_50, .int .i64 t147] (0, 0) (0, 0) _ _ rfl (by (with_reducible repeat (first | refine blk_drewN ?_ _ | refine blk_drew ?_ | refine blk_alloc ?_ _)); refine blk_far ?_ NB127_128.out _; (with_reducible repeat (first | refine blk_drewN ?_ _ | refine blk_drew ?_ | refine blk_alloc ?_ _)); refine blk_far ?_ NB127_128.out _; (with_reducible repeat (first | refine blk_drewN ?_ _ | refine blk_drew ?_ | refine blk_alloc ?_ _)); refine blk_far ?_ NB127_128.out _; (with_reducible repeat (first | refine blk_drewN ?_ _ | refine blk_drew ?_ | refine blk_alloc ?_ _)); refine blk_far ?_ NB127_128.out _; (with_reducible repeat (first | refine blk_drewN ?_ _ | refine blk_drew ?_ | refine blk_alloc ?_ _)); refine blk_put (cs := #[.int .i64 t132, .int .i64 t133, .slice Ao114 x127002_50.length co114, .slice none 0 0]) ?_ 3 _ rfl; (with_reducible repeat (first | refine blk_drewN ?_ _ | refine blk_drew ?_ | refine blk_alloc ?_ _)); refine blk_put (cs := #[.int .i64 t132, .int .i64 t133, .slice none 0 0, .slice none 0 0]) ?_ 2 _ rfl; (with_reducible repeat (first | refine blk_drewN ?_ _ | refine blk_drew ?_ | refine blk_alloc ?_ _)); refine blk_put (cs := #[.int .i64 t132, .int .i64 0, .slice none 0 0, .slice none 0 0]) ?_ 1 _ rfl; (with_reducible repeat (first | refine blk_drewN ?_ _ | refine blk_drew ?_ | refine blk_alloc ?_ _)); refine blk_put (cs := #[.int .i64 0, .int .i64 0, .slice none 0 0, .slice none 0 0]) ?_ 0 _ rfl; (with_reducible repeat (first | refine blk_drewN ?_ _ | refine blk_drew ?_ | refine blk_alloc ?_ _)); exact BK127.out) Try.underlying27 rfl (by kernel_rfl) rfl (by (with_reducible repeat (first | refine blk_drewN ?_ _ | refine blk_drew ?_ | refine blk_alloc ?_ _)); refine blk_put (cs := #[.bool x141000_50, .int .i64 (wrap64 (a0_1 - t146)), .int .i64 x141002_50, .int .i64 0]) ?_ 3 _ rfl; (with_reducible repeat (first | refine blk_drewN ?_ _ | refine blk_drew ?_ | refine blk_alloc ?_ _)); refine blk_put (cs := #[.bool x141000_50, .int .i64 (wrap64 (a0_1 - t146)), .int .i64 0, .int .i64 0]) ?_ 2 _ rfl; (with_reducible repeat (first | refine blk_drewN ?_ _ | refine blk_drew ?_ | refine blk_alloc ?_ _)); refine blk_put (cs := #[.bool x141000_50, .int .i64 0, .int .i64 0, .int .i64 0]) ?_ 1 _ rfl; (with_reducible repeat (first | refine blk_drewN ?_ _ | refine blk_drew ?_ | refine blk_alloc ?_ _)); refine blk_put (cs := #[.bool false, .int .i64 0, .int .i64 0, .int .i64 0]) ?_ 0 _ rfl; (with_reducible repeat (first | refine blk_drewN ?_ _ | refine blk_drew ?_ | refine blk_alloc ?_ _)); refine blk_far ?_ NB128_127.out _; (with_reducible repeat (first | refine blk_drewN ?_ _ | refine blk_drew ?_ | refine blk_alloc ?_ _)); refine blk_far ?_ NB128_127.out _; (with_reducible repeat (first | refine blk_drewN ?_ _ | refine blk_drew ?_ | refine blk_alloc ?_ _)); refine blk_far ?_ NB128_127.out _; (with_reducible repeat (first | refine blk_drewN ?_ _ | refine blk_drew ?_ | refine blk_alloc ?_ _)); refine blk_far ?_ NB128_127.out _; (with_reducible repeat (first | refine blk_drewN ?_ _ | refine blk_drew ?_ | refine blk_alloc ?_ _)); exact BK128.out) Try.underlying32 rfl (by kernel_rfl)) rfl ?_
      exact ⟨_, _, by first | (with_reducible rfl) | (simp only [← hji49]; with_reducible rfl) | (simp only [← hji49]; done) | rfl | (simp [errW_none, errW_some] <;> rfl) | (simp only [← hji49]; first | rfl | (simp [errW_none, errW_some] <;> rfl)) | (simp [*, errW_none, errW_some] <;> rfl), Kd.V_mono (Kd.R_V (by (with_reducible repeat (first | apply Kd.R_alloc | apply Kd.R_drewN | apply Kd.R_drew)); exact Kd.R_mono (Kd.R_far (p := ⟨gb128, 3, none⟩) (Kd.R_far (p := ⟨gb128, 2, none⟩) (Kd.R_far (p := ⟨gb128, 1, none⟩) (Kd.R_far (p := ⟨gb128, 0, none⟩) (Kd.R_far (p := ⟨gb127, 3, none⟩) (Kd.R_far (p := ⟨gb127, 2, none⟩) (Kd.R_far (p := ⟨gb127, 1, none⟩) (Kd.R_far (p := ⟨gb127, 0, none⟩) (Kd.R_types (Kd.R_types HO_127002.out BK127.out (by decide)) BK128.out (by decide)) (fun _ hk => hk.1.2) (.int .i64 t132)) (fun _ hk => hk.1.2) (.int .i64 t133)) (fun _ hk => hk.1.2) (.slice Ao114 x127002_50.length co114)) (fun _ hk => hk.1.2) (.slice Ao62 t137.length co62)) (fun _ hk => hk.2) (.bool x141000_50)) (fun _ hk => hk.2) (.int .i64 (wrap64 (a0_1 - t146)))) (fun _ hk => hk.2) (.int .i64 x141002_50)) (fun _ hk => hk.2) (.int .i64 t147)) (fun _ hk => hk.1.1))) (fun k_ hk => by first | exact ⟨(.inr (hk.1)), hk.2⟩ | exact (.inr (hk))), Kd.V_mono (Kd.R_V (by (with_reducible repeat (first | apply Kd.R_alloc | apply Kd.R_drewN | apply Kd.R_drew)); exact Kd.R_mono (Kd.R_far (p := ⟨gb128, 3, none⟩) (Kd.R_far (p := ⟨gb128, 2, none⟩) (Kd.R_far (p := ⟨gb128, 1, none⟩) (Kd.R_far (p := ⟨gb128, 0, none⟩) (Kd.R_far (p := ⟨gb127, 3, none⟩) (Kd.R_far (p := ⟨gb127, 2, none⟩) (Kd.R_far (p := ⟨gb127, 1, none⟩) (Kd.R_far (p := ⟨gb127, 0, none⟩) (Kd.R_types (Kd.R_types HO_127003.out BK127.out (by decide)) BK128.out (by decide)) (fun _ hk => hk.1.2) (.int .i64 t132)) (fun _ hk => hk.1.2) (.int .i64 t133)) (fun _ hk => hk.1.2) (.slice Ao114 x127002_50.length co114)) (fun _ hk => hk.1.2) (.slice Ao62 t137.length co62)) (fun _ hk => hk.2) (.bool x141000_50)) (fun _ hk => hk.2) (.int .i64 (wrap64 (a0_1 - t146)))) (fun _ hk => hk.2) (.int .i64 x141002_50)) (fun _ hk => hk.2) (.int .i64 t147)) (fun _ hk => hk.1.1))) (fun k_ hk => by first | exact ⟨(.inr (hk.1)), hk.2⟩ | exact (.inr (hk))), bl HB⟩

end Go.Proofs.Ytalcmlgkdkbbaaa.Q
