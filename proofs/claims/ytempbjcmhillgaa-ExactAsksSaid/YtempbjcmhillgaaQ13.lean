-- Laid by wip/tools/hprint.py, a program of this repo, over the kit's print; not a text of print.sh.
import Derived.Test.YtempbjcmhillgaaQ0
import Derived.Test.YtempbjcmhillgaaQ4
import Derived.Test.YtempbjcmhillgaaQ7
import Derived.Test.YtempbjcmhillgaaQ8
import Derived.Test.YtempbjcmhillgaaQ9
import Derived.Test.YtempbjcmhillgaaQ10
import Derived.Test.YtempbjcmhillgaaQ11
import Derived.Test.YtempbjcmhillgaaQ12
namespace Go.Proofs.Ytempbjcmhillgaa.Q
open Go.RowKit Go.Proofs.Ytempbjcmhillgaa.Zip Go.Proofs.YtempbjcmhillgaaW.PrintWords Go.Proofs.YtempbjcmhillgaaW.PrintLast Go.Proofs.YtempbjcmhillgaaW.PrintMore
attribute [local go_sem] max2_int min2_int max_two min_two max_three min_three max_four min_four   -- for this text's walks alone
set_option linter.unusedVariables false
set_option linter.unusedSimpArgs false

/-! ### exact_Ask: function 10 -/
mutual
def exact_Ask.j0 : Nat → Int → Int → Bool → Int → Int → Int → Int → Int → Int → List Int → List (S50) → Option (Int × Int × List Int × (List (S50)) × Bool × Int × Int × Int)
  | 0, _, _, _, _, _, _, _, _, _, _, _ => none
  | k + 1, x2, x3, x25, x134000, x134001, x134002, x134003, x135000, x135001, x135002, x135003 => if x25 = true then (some (x135000, x135001, x135002, x135003, false, 0, 0, 0)) else ((exact_since.f k x134000 x134001 x134002 x134003 x135003 (mx x2 x135000)).bind fun t140 => ((api_Hit.f t140).bind fun t143 => ((exact_count.f k t143).bind fun t147 => (if (wrap64 (t147 + x3)) ≤ x134001 then (if (t143.length : Int) = 0 then (exact_Ask.j1 k (mx x2 x135000) x3 t143 true x134000 x134001 x134002 x134003 true 0 0 0) else (if 0 ≤ (wrap64 ((t143.length : Int) - 1)) then (if (wrap64 ((t143.length : Int) - 1)) < (t143.length : Int) then (exact_Ask.j1 k (mx x2 x135000) x3 t143 (((rd_T50 t143 (wrap64 ((t143.length : Int) - 1))).f0) != (mx x2 x135000)) x134000 x134001 x134002 x134003 true 0 0 0) else (none)) else (none))) else (if x3 > x134001 then (exact_Ask.j2 k (mx x2 x135000) t143 x134000 x134001 x134002 x134003 false 0 2199023255552 0) else ((exact_wait.f k x134000 x134001 x134002 x134003 t143 (mx x2 x135000) (wrap64 (x134001 - x3))).bind fun t156 => (exact_Ask.j2 k (mx x2 x135000) t143 x134000 x134001 x134002 x134003 false 0 t156 0)))))))
def exact_Ask.j2 : Nat → Int → List (S50) → Int → Int → Int → Int → Bool → Int → Int → Int → Option (Int × Int × List Int × (List (S50)) × Bool × Int × Int × Int)
  | 0, _, _, _, _, _, _, _, _, _, _ => none
  | k + 1, x2, x10, x134000, x134001, x134002, x134003, x147000, x147001, x147002, x147003 => (exact_count.f k x10).bind fun t157 => ((exact_wait.f k x134000 x134001 x134002 x134003 x10 x2 0).bind fun t158 => (some (x2, 0, ([] : List Int), x10, x147000, wrap64 (x134001 - t157), x147002, t158)))
def exact_Ask.j1 : Nat → Int → Int → List (S50) → Bool → Int → Int → Int → Int → Bool → Int → Int → Int → Option (Int × Int × List Int × (List (S50)) × Bool × Int × Int × Int)
  | 0, _, _, _, _, _, _, _, _, _, _, _, _ => none
  | k + 1, x2, x3, x10, x69, x134000, x134001, x134002, x134003, x147000, x147001, x147002, x147003 => if x69 = true then (if x10.length < 8796093022208 then ((some (x10 ++ [(⟨x2, 0⟩ : S50)] : List (S50))).bind fun y149 => (if 0 ≤ (wrap64 ((y149.length : Int) - 1)) then (if (wrap64 ((y149.length : Int) - 1)) < (y149.length : Int) then (exact_Ask.j2 k x2 (y149.set ((wrap64 ((y149.length : Int) - 1)) : Int).toNat (⟨(rd_T50 y149 (wrap64 ((y149.length : Int) - 1))).f0, wrap64 (((rd_T50 y149 (wrap64 ((y149.length : Int) - 1))).f1) + x3)⟩ : S50)) x134000 x134001 x134002 x134003 x147000 x147001 x147002 x147003) else (none)) else (none))) else (none)) else (if 0 ≤ (wrap64 ((x10.length : Int) - 1)) then (if (wrap64 ((x10.length : Int) - 1)) < (x10.length : Int) then (exact_Ask.j2 k x2 (x10.set ((wrap64 ((x10.length : Int) - 1)) : Int).toNat (⟨(rd_T50 x10 (wrap64 ((x10.length : Int) - 1))).f0, wrap64 (((rd_T50 x10 (wrap64 ((x10.length : Int) - 1))).f1) + x3)⟩ : S50)) x134000 x134001 x134002 x134003 x147000 x147001 x147002 x147003) else (none)) else (none))
end
def exact_Ask.f (k : Nat) (a0_0 : Int) (a0_1 : Int) (a0_2 : Int) (a0_3 : Int) (a1_0 : Int) (a1_1 : Int) (l1_2 : List Int) (l1_3 : List (S50)) (a2 : Int) (a3 : Int) : Option (Int × Int × List Int × (List (S50)) × Bool × Int × Int × Int) := (exact_May.f k a0_0 a0_1 a0_2 a0_3 a1_0 a1_1 l1_2 l1_3).bind fun t137 => (if t137 = true then ((exact_time.f a2).bind fun t138 => (if t138 = true then ((policy_Weighs.f a3).bind fun t139 => (exact_Ask.j0 k a2 a3 (!t139) a0_0 a0_1 a0_2 a0_3 a1_0 a1_1 l1_2 l1_3)) else (exact_Ask.j0 k a2 a3 true a0_0 a0_1 a0_2 a0_3 a1_0 a1_1 l1_2 l1_3))) else (exact_Ask.j0 k a2 a3 true a0_0 a0_1 a0_2 a0_3 a1_0 a1_1 l1_2 l1_3))
theorem exact_Ask.mono_l : ∀ k, (∀ y0 y1 y2 y3 y4 y5 y6 y7 y8 y9 y10, LeO (exact_Ask.j0 k y0 y1 y2 y3 y4 y5 y6 y7 y8 y9 y10) (exact_Ask.j0 (k + 1) y0 y1 y2 y3 y4 y5 y6 y7 y8 y9 y10)) ∧ (∀ y0 y1 y2 y3 y4 y5 y6 y7 y8 y9, LeO (exact_Ask.j2 k y0 y1 y2 y3 y4 y5 y6 y7 y8 y9) (exact_Ask.j2 (k + 1) y0 y1 y2 y3 y4 y5 y6 y7 y8 y9)) ∧ (∀ y0 y1 y2 y3 y4 y5 y6 y7 y8 y9 y10 y11, LeO (exact_Ask.j1 k y0 y1 y2 y3 y4 y5 y6 y7 y8 y9 y10 y11) (exact_Ask.j1 (k + 1) y0 y1 y2 y3 y4 y5 y6 y7 y8 y9 y10 y11))
  | 0 => ⟨fun _ _ _ _ _ _ _ _ _ _ _ r h => by simp [exact_Ask.j0] at h, fun _ _ _ _ _ _ _ _ _ _ r h => by simp [exact_Ask.j2] at h, fun _ _ _ _ _ _ _ _ _ _ _ _ r h => by simp [exact_Ask.j1] at h⟩
  | k + 1 => by
    obtain ⟨ih0, ih1, ih2⟩ := exact_Ask.mono_l k
    refine ⟨?_, ?_, ?_⟩
    · intro y0 y1 y2 y3 y4 y5 y6 y7 y8 y9 y10
      unfold exact_Ask.j0
      repeat' first
      | (with_reducible exact ih0 _ _ _ _ _ _ _ _ _ _ _)
      | (with_reducible exact ih1 _ _ _ _ _ _ _ _ _ _)
      | (with_reducible exact ih2 _ _ _ _ _ _ _ _ _ _ _ _)
      | (with_reducible exact exact_May.mono _ _ _ _ _ _ _ _ _)
      | (with_reducible exact exact_count.mono _ _)
      | (with_reducible exact exact_since.mono _ _ _ _ _ _ _)
      | (with_reducible exact exact_wait.mono _ _ _ _ _ _ _ _)
      | (with_reducible exact LeO.refl _)
      | (with_reducible exact LeO.none _)
      | (with_reducible refine LeO.ite ?_ ?_)
      | (with_reducible refine LeO.bind ?_ (fun _ => ?_))
      | exact ih0 _ _ _ _ _ _ _ _ _ _ _
      | exact ih1 _ _ _ _ _ _ _ _ _ _
      | exact ih2 _ _ _ _ _ _ _ _ _ _ _ _
      | exact exact_May.mono _ _ _ _ _ _ _ _ _
      | exact exact_count.mono _ _
      | exact exact_since.mono _ _ _ _ _ _ _
      | exact exact_wait.mono _ _ _ _ _ _ _ _
      | exact LeO.none _
      | refine LeO.ite ?_ ?_
      | refine LeO.bind ?_ (fun _ => ?_)
    · intro y0 y1 y2 y3 y4 y5 y6 y7 y8 y9
      unfold exact_Ask.j2
      repeat' first
      | (with_reducible exact ih0 _ _ _ _ _ _ _ _ _ _ _)
      | (with_reducible exact ih1 _ _ _ _ _ _ _ _ _ _)
      | (with_reducible exact ih2 _ _ _ _ _ _ _ _ _ _ _ _)
      | (with_reducible exact exact_May.mono _ _ _ _ _ _ _ _ _)
      | (with_reducible exact exact_count.mono _ _)
      | (with_reducible exact exact_since.mono _ _ _ _ _ _ _)
      | (with_reducible exact exact_wait.mono _ _ _ _ _ _ _ _)
      | (with_reducible exact LeO.refl _)
      | (with_reducible exact LeO.none _)
      | (with_reducible refine LeO.ite ?_ ?_)
      | (with_reducible refine LeO.bind ?_ (fun _ => ?_))
      | exact ih0 _ _ _ _ _ _ _ _ _ _ _
      | exact ih1 _ _ _ _ _ _ _ _ _ _
      | exact ih2 _ _ _ _ _ _ _ _ _ _ _ _
      | exact exact_May.mono _ _ _ _ _ _ _ _ _
      | exact exact_count.mono _ _
      | exact exact_since.mono _ _ _ _ _ _ _
      | exact exact_wait.mono _ _ _ _ _ _ _ _
      | exact LeO.none _
      | refine LeO.ite ?_ ?_
      | refine LeO.bind ?_ (fun _ => ?_)
    · intro y0 y1 y2 y3 y4 y5 y6 y7 y8 y9 y10 y11
      unfold exact_Ask.j1
      repeat' first
      | (with_reducible exact ih0 _ _ _ _ _ _ _ _ _ _ _)
      | (with_reducible exact ih1 _ _ _ _ _ _ _ _ _ _)
      | (with_reducible exact ih2 _ _ _ _ _ _ _ _ _ _ _ _)
      | (with_reducible exact exact_May.mono _ _ _ _ _ _ _ _ _)
      | (with_reducible exact exact_count.mono _ _)
      | (with_reducible exact exact_since.mono _ _ _ _ _ _ _)
      | (with_reducible exact exact_wait.mono _ _ _ _ _ _ _ _)
      | (with_reducible exact LeO.refl _)
      | (with_reducible exact LeO.none _)
      | (with_reducible refine LeO.ite ?_ ?_)
      | (with_reducible refine LeO.bind ?_ (fun _ => ?_))
      | exact ih0 _ _ _ _ _ _ _ _ _ _ _
      | exact ih1 _ _ _ _ _ _ _ _ _ _
      | exact ih2 _ _ _ _ _ _ _ _ _ _ _ _
      | exact exact_May.mono _ _ _ _ _ _ _ _ _
      | exact exact_count.mono _ _
      | exact exact_since.mono _ _ _ _ _ _ _
      | exact exact_wait.mono _ _ _ _ _ _ _ _
      | exact LeO.none _
      | refine LeO.ite ?_ ?_
      | refine LeO.bind ?_ (fun _ => ?_)
theorem exact_Ask.mono : ∀ a0 a1 a2 a3 a4 a5 a6 a7 a8 a9 k, LeO (exact_Ask.f k a0 a1 a2 a3 a4 a5 a6 a7 a8 a9) (exact_Ask.f (k + 1) a0 a1 a2 a3 a4 a5 a6 a7 a8 a9) := by
  intro a0 a1 a2 a3 a4 a5 a6 a7 a8 a9 k
  obtain ⟨ih0, ih1, ih2⟩ := exact_Ask.mono_l k
  unfold exact_Ask.f
  repeat' first
      | (with_reducible exact ih0 _ _ _ _ _ _ _ _ _ _ _)
      | (with_reducible exact ih1 _ _ _ _ _ _ _ _ _ _)
      | (with_reducible exact ih2 _ _ _ _ _ _ _ _ _ _ _ _)
      | (with_reducible exact exact_May.mono _ _ _ _ _ _ _ _ _)
      | (with_reducible exact exact_count.mono _ _)
      | (with_reducible exact exact_since.mono _ _ _ _ _ _ _)
      | (with_reducible exact exact_wait.mono _ _ _ _ _ _ _ _)
      | (with_reducible exact LeO.refl _)
      | (with_reducible exact LeO.none _)
      | (with_reducible refine LeO.ite ?_ ?_)
      | (with_reducible refine LeO.bind ?_ (fun _ => ?_))
      | exact ih0 _ _ _ _ _ _ _ _ _ _ _
      | exact ih1 _ _ _ _ _ _ _ _ _ _
      | exact ih2 _ _ _ _ _ _ _ _ _ _ _ _
      | exact exact_May.mono _ _ _ _ _ _ _ _ _
      | exact exact_count.mono _ _
      | exact exact_since.mono _ _ _ _ _ _ _
      | exact exact_wait.mono _ _ _ _ _ _ _ _
      | exact LeO.none _
      | refine LeO.ite ?_ ?_
      | refine LeO.bind ?_ (fun _ => ?_)
def exact_Ask.T7 : Bool × List (List Nat × List Nat) := (true, [([], []), ([0], [0]), ([], []), ([1, 2], [1, 2]), ([], []), ([4], [4]), ([3, 5], [3, 5]), ([6, 1], [6])])
def exact_Ask.B7 : List Nat := [0, 1, 0, 7, 0, 16, 63, 127]
theorem exact_Ask.tab7 : rtab .any (opsOf Try.f10 7) = exact_Ask.T7 := by kernel_rfl
theorem exact_Ask.bits7 : waitsOk exact_Ask.T7.2 exact_Ask.B7 = true := by kernel_rfl
set_option maxHeartbeats 8000000 in
set_option maxRecDepth 100000 in
theorem exact_Ask.calls (k : Nat) (a0_0 : Int) (a0_1 : Int) (a0_2 : Int) (a0_3 : Int) (a1_0 : Int) (a1_1 : Int) (P1_2_ : Nat → Prop) (A1_2 : Option Addr) (c1_2 : Nat) (l1_2 : List Int) (P1_3_ : Nat → Prop) (A1_3 : Option Addr) (c1_3 : Nat) (l1_3 : List (S50)) (a2 : Int) (a3 : Int) (r1 : Int) (r2 : Int) (r3 : List Int) (r4 : List (S50)) (r5 : Bool) (r6 : Int) (r7 : Int) (r8 : Int) (w : World) (hs1_2 : Kd.V (Kd.int .i64) 3 w w.heap.size (fun k_ => P1_2_ k_) (.slice A1_2 l1_2.length c1_2) l1_2) (hs1_3 : Kd.V k50 50 w w.heap.size (fun k_ => P1_3_ k_) (.slice A1_3 l1_3.length c1_3) l1_3) (h : exact_Ask.f k a0_0 a0_1 a0_2 a0_3 a1_0 a1_1 l1_2 l1_3 a2 a3 = some (r1, r2, r3, r4, r5, r6, r7, r8)) :
  Calls Try.prog 10 #[.agg #[.int .i64 a0_0, .int .i64 a0_1, .int .i64 a0_2, .int .i64 a0_3], .agg #[.int .i64 a1_0, .int .i64 a1_1, .slice A1_2 l1_2.length c1_2, .slice A1_3 l1_3.length c1_3], .int .i64 a2, .int .i64 a3] w fun e w' => ∃ v2_ v3_ : Value, e = .returned (.tuple #[.agg #[.int .i64 r1, .int .i64 r2, v2_, v3_], .agg #[.bool r5, .int .i64 r6, .int .i64 r7, .int .i64 r8]]) ∧ Kd.V (Kd.int .i64) 3 w' w.heap.size (fun k_ => ((P1_2_ k_ ∨ P1_3_ k_) ∨ w.heap.size ≤ k_)) v2_ r3 ∧ Kd.V k50 50 w' w.heap.size (fun k_ => ((P1_2_ k_ ∨ P1_3_ k_) ∨ w.heap.size ≤ k_)) v3_ r4 ∧ Below w.heap.size w w' := by
 have hu23 := Try.underlying23
 have hu27 := Try.underlying27
 have hu32 := Try.underlying32
 have hu50 := Try.underlying50
 have HO1_2 := Aside0.mk (show Kd.V (Kd.int .i64) 3 w w.heap.size (fun k_ => ((P1_2_ k_ ∨ P1_3_ k_) ∨ w.heap.size ≤ k_)) (.slice A1_2 l1_2.length c1_2) l1_2 from Kd.V_mono hs1_2 (fun k_ hk => .inl (.inl hk)))
 have HO1_3 := Aside0.mk (show Kd.V k50 50 w w.heap.size (fun k_ => ((P1_2_ k_ ∨ P1_3_ k_) ∨ w.heap.size ≤ k_)) (.slice A1_3 l1_3.length c1_3) l1_3 from Kd.V_mono hs1_3 (fun k_ hk => .inl (.inr hk)))
 have HB := Aside0.mk (Below.refl w.heap.size w)
 have H : ((exact_May.f k a0_0 a0_1 a0_2 a0_3 a1_0 a1_1 l1_2 l1_3).bind fun t137 => (if t137 = true then ((exact_time.f a2).bind fun t138 => (if t138 = true then ((policy_Weighs.f a3).bind fun t139 => (exact_Ask.j0 k a2 a3 (!t139) a0_0 a0_1 a0_2 a0_3 a1_0 a1_1 l1_2 l1_3)) else (exact_Ask.j0 k a2 a3 true a0_0 a0_1 a0_2 a0_3 a1_0 a1_1 l1_2 l1_3))) else (exact_Ask.j0 k a2 a3 true a0_0 a0_1 a0_2 a0_3 a1_0 a1_1 l1_2 l1_3))) = some (r1, r2, r3, r4, r5, r6, r7, r8) := h
 clear h
 have HC5 := Aside0.mk H
 clear H
 go_enter Try.func10, Try.ntmps10
 go_upto_region 1 with (first | ((with_reducible refine gate_dst (N := 4) rfl ?_); (try (refine gate_guard (by rfl) ?_; dsimp only)); refine box_event ?hg (N := 4) ?hd (cs := #[.int .i64 a0_0, .int .i64 a0_1, .int .i64 a0_2, .int .i64 a0_3]) (t := 23) ?hr ?_; (case hd => rfl); (case hg => rfl); (case hr => first | (go_simp; done) | (go_simp; rfl)); intro gb133 hg w6 hbox hb; have BK133 := Aside0.mk (hbox); have GW133 := Aside0.mk ((by rw [hg]; exact (below_size (bl HB)) : w.heap.size ≤ gb133)); have GE133 := Aside0.mk ((by rw [hg]; exact (below_size (bl HB)) : w.heap.size ≤ gb133)); replace HO1_2 := ve HO1_2 hg hb; replace HO1_3 := ve HO1_3 hg hb; replace HB := Aside0.mk (below_step (bl HB) hb); clear hb hbox hg) | ((with_reducible refine gate_dst (N := 5) rfl ?_); (try (refine gate_guard (by rfl) ?_; dsimp only)); refine box_event ?hg (N := 5) ?hd (cs := #[.int .i64 a1_0, .int .i64 a1_1, .slice A1_2 l1_2.length c1_2, .slice A1_3 l1_3.length c1_3]) (t := 27) ?hr ?_; (case hd => rfl); (case hg => rfl); (case hr => first | (go_simp; done) | (go_simp; rfl)); intro gb134 hg w7 hbox hb; have BK134 := Aside0.mk (hbox); have GW134 := Aside0.mk ((by rw [hg]; exact (below_size (bl HB)) : w.heap.size ≤ gb134)); have GE134 := Aside0.mk ((by rw [hg]; exact (below_size (bl HB)) : w.heap.size ≤ gb134)); have NB133_134 := nb BK133 hg; have NB134_133 := bn BK133 hg; replace HO1_2 := ve HO1_2 hg hb; replace HO1_3 := ve HO1_3 hg hb; replace BK133 := Aside0.mk (blk_below (bo BK133) hb); replace HB := Aside0.mk (below_step (bl HB) hb); clear hb hbox hg) | ((with_reducible refine gate_dst (N := 8) rfl ?_); (try (refine gate_guard (by rfl) ?_; dsimp only)); refine box_event ?hg (N := 8) ?hd (cs := #[.int .i64 0, .int .i64 0, .slice none 0 0, .slice none 0 0]) (t := 27) ?hr ?_; (case hd => rfl); (case hg => rfl); (case hr => first | (go_simp; done) | (go_simp; rfl)); intro gb135 hg w8 hbox hb; have BK135 := Aside0.mk (hbox); have GW135 := Aside0.mk ((by rw [hg]; exact (below_size (bl HB)) : w.heap.size ≤ gb135)); have GE135 := Aside0.mk ((by rw [hg]; exact (below_size (bl HB)) : w.heap.size ≤ gb135)); have NB133_135 := nb BK133 hg; have NB135_133 := bn BK133 hg; have NB134_135 := nb BK134 hg; have NB135_134 := bn BK134 hg; replace HO1_2 := ve HO1_2 hg hb; replace HO1_3 := ve HO1_3 hg hb; replace BK133 := Aside0.mk (blk_below (bo BK133) hb); replace BK134 := Aside0.mk (blk_below (bo BK134) hb); replace HB := Aside0.mk (below_step (bl HB) hb); clear hb hbox hg) | ((with_reducible refine gate_dst (N := 9) rfl ?_); (try (refine gate_guard (by rfl) ?_; dsimp only)); refine box_event ?hg (N := 9) ?hd (cs := #[.bool false, .int .i64 0, .int .i64 0, .int .i64 0]) (t := 32) ?hr ?_; (case hd => rfl); (case hg => rfl); (case hr => first | (go_simp; done) | (go_simp; rfl)); intro gb136 hg w9 hbox hb; have BK136 := Aside0.mk (hbox); have GW136 := Aside0.mk ((by rw [hg]; exact (below_size (bl HB)) : w.heap.size ≤ gb136)); have GE136 := Aside0.mk ((by rw [hg]; exact (below_size (bl HB)) : w.heap.size ≤ gb136)); have NB133_136 := nb BK133 hg; have NB136_133 := bn BK133 hg; have NB134_136 := nb BK134 hg; have NB136_134 := bn BK134 hg; have NB135_136 := nb BK135 hg; have NB136_135 := bn BK135 hg; replace HO1_2 := ve HO1_2 hg hb; replace HO1_3 := ve HO1_3 hg hb; replace BK133 := Aside0.mk (blk_below (bo BK133) hb); replace BK134 := Aside0.mk (blk_below (bo BK134) hb); replace BK135 := Aside0.mk (blk_below (bo BK135) hb); replace HB := Aside0.mk (below_step (bl HB) hb); clear hb hbox hg))
 (try simp only [Act.put, List.setIfInBounds_toArray, List.set_cons_zero, List.set_cons_succ])
 go_cut [25] (fun v25 wc => ∃ (kq : Nat) (x25_4 : Bool), v25 = .bool x25_4 ∧ Aside0 (exact_Ask.j0 kq a2 a3 x25_4 a0_0 a0_1 a0_2 a0_3 a1_0 a1_1 l1_2 l1_3 = some (r1, r2, r3, r4, r5, r6, r7, r8)) ∧ Aside0 (kq ≤ k) ∧ Aside0 (Kd.V (Kd.int .i64) 3 wc w.heap.size (fun k_ => ((P1_2_ k_ ∨ P1_3_ k_) ∨ w.heap.size ≤ k_) ∧ k_ ≠ gb133 ∧ k_ ≠ gb134 ∧ k_ ≠ gb135 ∧ k_ ≠ gb136) (.slice A1_2 l1_2.length c1_2) l1_2) ∧ Aside0 (Kd.V k50 50 wc w.heap.size (fun k_ => ((P1_2_ k_ ∨ P1_3_ k_) ∨ w.heap.size ≤ k_) ∧ k_ ≠ gb133 ∧ k_ ≠ gb134 ∧ k_ ≠ gb135 ∧ k_ ≠ gb136) (.slice A1_3 l1_3.length c1_3) l1_3) ∧ Aside0 (wc.heap[gb133]? = some (.cells #[.int .i64 a0_0, .int .i64 a0_1, .int .i64 a0_2, .int .i64 a0_3] 23 (0, 0))) ∧ Aside0 (wc.heap[gb134]? = some (.cells #[.int .i64 a1_0, .int .i64 a1_1, (.slice A1_2 l1_2.length c1_2), (.slice A1_3 l1_3.length c1_3)] 27 (0, 0))) ∧ Aside0 (wc.heap[gb135]? = some (.cells #[.int .i64 0, .int .i64 0, (.slice none 0 0), (.slice none 0 0)] 27 (0, 0))) ∧ Aside0 (wc.heap[gb136]? = some (.cells #[.bool false, .int .i64 0, .int .i64 0, .int .i64 0] 32 (0, 0))) ∧ Aside0 (Below w.heap.size w wc))
 case first =>
  have H := HC5.out
  clear HC5
  replace H := Option.bind_eq_some_iff.mp H
  obtain ⟨t137, A100, H⟩ := H
  have A10 := Aside0.mk A100
  clear A100
  by_cases c11 : t137 = true
  ·subst c11
   rw [if_pos rfl] at H
   replace H := Option.bind_eq_some_iff.mp H
   obtain ⟨t138, A120, H⟩ := H
   have A12 := Aside0.mk A120
   clear A120
   by_cases c13 : t138 = true
   ·subst c13
    rw [if_pos rfl] at H
    replace H := Option.bind_eq_some_iff.mp H
    obtain ⟨t139, A140, H⟩ := H
    have A14 := Aside0.mk A140
    clear A140
    have H' := Aside0.mk H
    clear H
    have hnb15 := NB133_134.out
    have hnc15 := NB134_133.out
    have hnb16 := NB133_135.out
    have hnc16 := NB135_133.out
    have hnb17 := NB133_136.out
    have hnc17 := NB136_133.out
    obtain ⟨hcz18_0, hcz18_1, hcz18_2, hcz18_3⟩ := ce4 BK133
    obtain ⟨hfz18_0, hfz18_1, hfz18_2, hfz18_3⟩ := fr4 BK133
    have hnb19 := NB134_135.out
    have hnc19 := NB135_134.out
    have hnb20 := NB134_136.out
    have hnc20 := NB136_134.out
    obtain ⟨hcz21_0, hcz21_1, hcz21_2, hcz21_3⟩ := ce4 BK134
    obtain ⟨hfz21_0, hfz21_1, hfz21_2, hfz21_3⟩ := fr4 BK134
    go_wp2_with (first | ((with_reducible refine gate_callee (f := 13) rfl ?_); refine goesL_ (some 14) rfl rfl Try.func13 (by kernel_rfl) rfl #[.agg #[.int .i64 a0_0, .int .i64 a0_1, .int .i64 a0_2, .int .i64 a0_3], .agg #[.int .i64 a1_0, .int .i64 a1_1, .slice A1_2 l1_2.length c1_2, .slice A1_3 l1_3.length c1_3]] rfl (by (try simp only [List.map_toArray, List.map_cons, List.map_nil]); first | done | rfl | (simp only [List.length_drop, List.length_take]; rfl)) ?_; (with_reducible refine (exact_May.calls k a0_0 a0_1 a0_2 a0_3 a1_0 a1_1 _ _ l1_2 _ _ l1_3 true _ ?side1 ?side2 ?side3 ?side4 A10.out).mono ?_); (case side1 => repeat (first | exact (Kd.V_reads' HO1_2.out).2.2 | (with_reducible refine Kd.C_alloc ?_ _) | (with_reducible refine Kd.C_drewN ?_ _) | (with_reducible refine Kd.C_drew ?_))); (case side2 => exact (Kd.V_reads' HO1_2.out).2.1); (case side3 => repeat (first | exact (Kd.V_reads' HO1_3.out).2.2 | (with_reducible refine Kd.C_alloc ?_ _) | (with_reducible refine Kd.C_drewN ?_ _) | (with_reducible refine Kd.C_drew ?_))); (case side4 => exact (Kd.V_reads' HO1_3.out).2.1); rintro e w22 ⟨rfl, hb⟩; refine ⟨_, rfl, ?_⟩; replace HO1_2 := vb HO1_2 hb; replace HO1_3 := vb HO1_3 hb; replace BK133 := Aside0.mk (blk_below (bo BK133) hb); replace BK134 := Aside0.mk (blk_below (bo BK134) hb); replace BK135 := Aside0.mk (blk_below (bo BK135) hb); replace BK136 := Aside0.mk (blk_below (bo BK136) hb); replace HB := Aside0.mk (below_step (bl HB) hb); (try clear hb); (try clear hb2); (try clear hk); (try clear hi)) | (go_at_call 21; (with_reducible refine (exact_time.calls a2 true _ A12.out).mono ?_); rintro e w' ⟨rfl, ⟨nd, rfl⟩⟩) | (go_at_call 22; (with_reducible refine (policy_Weighs.calls a3 t139 _ A14.out).mono ?_); rintro e w' ⟨rfl, ⟨nd, rfl⟩⟩))
    go_meet
    case rel => exact ⟨_, (!t139), (by first | (with_reducible rfl) | rfl | (simp; done) | (simp [*]; done)), H', ⟨by first | omega | exact Nat.le_refl _⟩, ⟨by (with_reducible repeat (first | apply Kd.V_alloc | apply Kd.V_drewN | apply Kd.V_drew)); exact Kd.V_mono HO1_2.out (fun _ hk => ⟨hk.1.1.1.1, ⟨hk.1.1.1.2, ⟨hk.1.1.2, ⟨hk.1.2, hk.2⟩⟩⟩⟩)⟩, ⟨by (with_reducible repeat (first | apply Kd.V_alloc | apply Kd.V_drewN | apply Kd.V_drew)); exact Kd.V_mono HO1_3.out (fun _ hk => ⟨hk.1.1.1.1, ⟨hk.1.1.1.2, ⟨hk.1.1.2, ⟨hk.1.2, hk.2⟩⟩⟩⟩)⟩, ⟨bo BK133⟩, ⟨bo BK134⟩, ⟨bo BK135⟩, ⟨bo BK136⟩, ⟨bl HB⟩⟩
   ·replace c13 := Bool.eq_false_iff.mpr c13
    subst c13
    rw [if_neg (show ¬ (false = true) by decide)] at H
    have H' := Aside0.mk H
    clear H
    have hnb23 := NB133_134.out
    have hnc23 := NB134_133.out
    have hnb24 := NB133_135.out
    have hnc24 := NB135_133.out
    have hnb25 := NB133_136.out
    have hnc25 := NB136_133.out
    obtain ⟨hcz26_0, hcz26_1, hcz26_2, hcz26_3⟩ := ce4 BK133
    obtain ⟨hfz26_0, hfz26_1, hfz26_2, hfz26_3⟩ := fr4 BK133
    have hnb27 := NB134_135.out
    have hnc27 := NB135_134.out
    have hnb28 := NB134_136.out
    have hnc28 := NB136_134.out
    obtain ⟨hcz29_0, hcz29_1, hcz29_2, hcz29_3⟩ := ce4 BK134
    obtain ⟨hfz29_0, hfz29_1, hfz29_2, hfz29_3⟩ := fr4 BK134
    go_wp2_with (first | ((with_reducible refine gate_callee (f := 13) rfl ?_); refine goesL_ (some 14) rfl rfl Try.func13 (by kernel_rfl) rfl #[.agg #[.int .i64 a0_0, .int .i64 a0_1, .int .i64 a0_2, .int .i64 a0_3], .agg #[.int .i64 a1_0, .int .i64 a1_1, .slice A1_2 l1_2.length c1_2, .slice A1_3 l1_3.length c1_3]] rfl (by (try simp only [List.map_toArray, List.map_cons, List.map_nil]); first | done | rfl | (simp only [List.length_drop, List.length_take]; rfl)) ?_; (with_reducible refine (exact_May.calls k a0_0 a0_1 a0_2 a0_3 a1_0 a1_1 _ _ l1_2 _ _ l1_3 true _ ?side1 ?side2 ?side3 ?side4 A10.out).mono ?_); (case side1 => repeat (first | exact (Kd.V_reads' HO1_2.out).2.2 | (with_reducible refine Kd.C_alloc ?_ _) | (with_reducible refine Kd.C_drewN ?_ _) | (with_reducible refine Kd.C_drew ?_))); (case side2 => exact (Kd.V_reads' HO1_2.out).2.1); (case side3 => repeat (first | exact (Kd.V_reads' HO1_3.out).2.2 | (with_reducible refine Kd.C_alloc ?_ _) | (with_reducible refine Kd.C_drewN ?_ _) | (with_reducible refine Kd.C_drew ?_))); (case side4 => exact (Kd.V_reads' HO1_3.out).2.1); rintro e w30 ⟨rfl, hb⟩; refine ⟨_, rfl, ?_⟩; replace HO1_2 := vb HO1_2 hb; replace HO1_3 := vb HO1_3 hb; replace BK133 := Aside0.mk (blk_below (bo BK133) hb); replace BK134 := Aside0.mk (blk_below (bo BK134) hb); replace BK135 := Aside0.mk (blk_below (bo BK135) hb); replace BK136 := Aside0.mk (blk_below (bo BK136) hb); replace HB := Aside0.mk (below_step (bl HB) hb); (try clear hb); (try clear hb2); (try clear hk); (try clear hi)) | (go_at_call 21; (with_reducible refine (exact_time.calls a2 false _ A12.out).mono ?_); rintro e w' ⟨rfl, ⟨nd, rfl⟩⟩))
    go_meet
    case rel => exact ⟨_, (true), (by first | (with_reducible rfl) | rfl | (simp; done) | (simp [*]; done)), H', ⟨by first | omega | exact Nat.le_refl _⟩, ⟨by (with_reducible repeat (first | apply Kd.V_alloc | apply Kd.V_drewN | apply Kd.V_drew)); exact Kd.V_mono HO1_2.out (fun _ hk => ⟨hk.1.1.1.1, ⟨hk.1.1.1.2, ⟨hk.1.1.2, ⟨hk.1.2, hk.2⟩⟩⟩⟩)⟩, ⟨by (with_reducible repeat (first | apply Kd.V_alloc | apply Kd.V_drewN | apply Kd.V_drew)); exact Kd.V_mono HO1_3.out (fun _ hk => ⟨hk.1.1.1.1, ⟨hk.1.1.1.2, ⟨hk.1.1.2, ⟨hk.1.2, hk.2⟩⟩⟩⟩)⟩, ⟨bo BK133⟩, ⟨bo BK134⟩, ⟨bo BK135⟩, ⟨bo BK136⟩, ⟨bl HB⟩⟩
  ·replace c11 := Bool.eq_false_iff.mpr c11
   subst c11
   rw [if_neg (show ¬ (false = true) by decide)] at H
   have H' := Aside0.mk H
   clear H
   have hnb31 := NB133_134.out
   have hnc31 := NB134_133.out
   have hnb32 := NB133_135.out
   have hnc32 := NB135_133.out
   have hnb33 := NB133_136.out
   have hnc33 := NB136_133.out
   obtain ⟨hcz34_0, hcz34_1, hcz34_2, hcz34_3⟩ := ce4 BK133
   obtain ⟨hfz34_0, hfz34_1, hfz34_2, hfz34_3⟩ := fr4 BK133
   have hnb35 := NB134_135.out
   have hnc35 := NB135_134.out
   have hnb36 := NB134_136.out
   have hnc36 := NB136_134.out
   obtain ⟨hcz37_0, hcz37_1, hcz37_2, hcz37_3⟩ := ce4 BK134
   obtain ⟨hfz37_0, hfz37_1, hfz37_2, hfz37_3⟩ := fr4 BK134
   go_wp2_with (first | ((with_reducible refine gate_callee (f := 13) rfl ?_); refine goesL_ (some 14) rfl rfl Try.func13 (by kernel_rfl) rfl #[.agg #[.int .i64 a0_0, .int .i64 a0_1, .int .i64 a0_2, .int .i64 a0_3], .agg #[.int .i64 a1_0, .int .i64 a1_1, .slice A1_2 l1_2.length c1_2, .slice A1_3 l1_3.length c1_3]] rfl (by (try simp only [List.map_toArray, List.map_cons, List.map_nil]); first | done | rfl | (simp only [List.length_drop, List.length_take]; rfl)) ?_; (with_reducible refine (exact_May.calls k a0_0 a0_1 a0_2 a0_3 a1_0 a1_1 _ _ l1_2 _ _ l1_3 false _ ?side1 ?side2 ?side3 ?side4 A10.out).mono ?_); (case side1 => repeat (first | exact (Kd.V_reads' HO1_2.out).2.2 | (with_reducible refine Kd.C_alloc ?_ _) | (with_reducible refine Kd.C_drewN ?_ _) | (with_reducible refine Kd.C_drew ?_))); (case side2 => exact (Kd.V_reads' HO1_2.out).2.1); (case side3 => repeat (first | exact (Kd.V_reads' HO1_3.out).2.2 | (with_reducible refine Kd.C_alloc ?_ _) | (with_reducible refine Kd.C_drewN ?_ _) | (with_reducible refine Kd.C_drew ?_))); (case side4 => exact (Kd.V_reads' HO1_3.out).2.1); rintro e w38 ⟨rfl, hb⟩; refine ⟨_, rfl, ?_⟩; replace HO1_2 := vb HO1_2 hb; replace HO1_3 := vb HO1_3 hb; replace BK133 := Aside0.mk (blk_below (bo BK133) hb); replace BK134 := Aside0.mk (blk_below (bo BK134) hb); replace BK135 := Aside0.mk (blk_below (bo BK135) hb); replace BK136 := Aside0.mk (blk_below (bo BK136) hb); replace HB := Aside0.mk (below_step (bl HB) hb); (try clear hb); (try clear hb2); (try clear hk); (try clear hi)))
   go_meet
   case rel => exact ⟨_, (true), (by first | (with_reducible rfl) | rfl | (simp; done) | (simp [*]; done)), H', ⟨by first | omega | exact Nat.le_refl _⟩, ⟨by (with_reducible repeat (first | apply Kd.V_alloc | apply Kd.V_drewN | apply Kd.V_drew)); exact Kd.V_mono HO1_2.out (fun _ hk => ⟨hk.1.1.1.1, ⟨hk.1.1.1.2, ⟨hk.1.1.2, ⟨hk.1.2, hk.2⟩⟩⟩⟩)⟩, ⟨by (with_reducible repeat (first | apply Kd.V_alloc | apply Kd.V_drewN | apply Kd.V_drew)); exact Kd.V_mono HO1_3.out (fun _ hk => ⟨hk.1.1.1.1, ⟨hk.1.1.1.2, ⟨hk.1.1.2, ⟨hk.1.2, hk.2⟩⟩⟩⟩)⟩, ⟨bo BK133⟩, ⟨bo BK134⟩, ⟨bo BK135⟩, ⟨bo BK136⟩, ⟨bl HB⟩⟩
 case rest =>
  clear HC5
  try clear c11; try clear c13; try clear hcz18_0; try clear hcz18_1; try clear hcz18_2; try clear hcz18_3; try clear hcz21_0; try clear hcz21_1; try clear hcz21_2; try clear hcz21_3; try clear hcz26_0; try clear hcz26_1; try clear hcz26_2; try clear hcz26_3; try clear hcz29_0; try clear hcz29_1; try clear hcz29_2; try clear hcz29_3; try clear hcz34_0; try clear hcz34_1; try clear hcz34_2; try clear hcz34_3; try clear hcz37_0; try clear hcz37_1; try clear hcz37_2; try clear hcz37_3; try clear hfz18_0; try clear hfz18_1; try clear hfz18_2; try clear hfz18_3; try clear hfz21_0; try clear hfz21_1; try clear hfz21_2; try clear hfz21_3; try clear hfz26_0; try clear hfz26_1; try clear hfz26_2; try clear hfz26_3; try clear hfz29_0; try clear hfz29_1; try clear hfz29_2; try clear hfz29_3; try clear hfz34_0; try clear hfz34_1; try clear hfz34_2; try clear hfz34_3; try clear hfz37_0; try clear hfz37_1; try clear hfz37_2; try clear hfz37_3
  obtain ⟨kq, x25_4, rfl, HA, HJ4, HO_135002, HO_135003, BK133, BK134, BK135, BK136, HB⟩ := hcut
  cases kq with
  | zero => exact absurd HA.out (by simp [exact_Ask.j0])
  | succ kj4 =>
   have H := HA.out
   clear HA
   simp only [exact_Ask.j0] at H
   by_cases c39 : x25_4 = true
   ·subst c39
    rw [if_pos rfl] at H
    simp only [Option.some.injEq, Prod.mk.injEq] at H
    obtain ⟨rfl, rfl, rfl, rfl, rfl, rfl, rfl, rfl⟩ := H
    have hnb40 := NB134_133.out
    have hnc40 := NB133_134.out
    have hnb41 := NB134_135.out
    have hnc41 := NB135_134.out
    have hnb42 := NB134_136.out
    have hnc42 := NB136_134.out
    obtain ⟨hcz43_0, hcz43_1, hcz43_2, hcz43_3⟩ := ce4 BK134
    obtain ⟨hfz43_0, hfz43_1, hfz43_2, hfz43_3⟩ := fr4 BK134
    have hnb44 := NB135_133.out
    have hnc44 := NB133_135.out
    have hnb45 := NB135_136.out
    have hnc45 := NB136_135.out
    obtain ⟨hcz46_0, hcz46_1, hcz46_2, hcz46_3⟩ := ce4 BK135
    obtain ⟨hfz46_0, hfz46_1, hfz46_2, hfz46_3⟩ := fr4 BK135
    have hnb47 := NB136_133.out
    have hnc47 := NB133_136.out
    obtain ⟨hcz48_0, hcz48_1, hcz48_2, hcz48_3⟩ := ce4 BK136
    obtain ⟨hfz48_0, hfz48_1, hfz48_2, hfz48_3⟩ := fr4 BK136
    go_wp2
    refine bodyPost_ret (results_cc rfl _ _ gb135 gb136 27 32 #[.int .i64 a1_0, .int .i64 a1_1, .slice A1_2 l1_2.length c1_2, .slice A1_3 l1_3.length c1_3] #[.bool false, .int .i64 0, .int .i64 0, .int .i64 0] (0, 0) (0, 0) _ _ rfl (by (with_reducible repeat (first | refine blk_drewN ?_ _ | refine blk_drew ?_ | refine blk_alloc ?_ _)); refine blk_far ?_ NB135_136.out _; (with_reducible repeat (first | refine blk_drewN ?_ _ | refine blk_drew ?_ | refine blk_alloc ?_ _)); refine blk_far ?_ NB135_136.out _; (with_reducible repeat (first | refine blk_drewN ?_ _ | refine blk_drew ?_ | refine blk_alloc ?_ _)); refine blk_far ?_ NB135_136.out _; (with_reducible repeat (first | refine blk_drewN ?_ _ | refine blk_drew ?_ | refine blk_alloc ?_ _)); refine blk_far ?_ NB135_136.out _; (with_reducible repeat (first | refine blk_drewN ?_ _ | refine blk_drew ?_ | refine blk_alloc ?_ _)); refine blk_put (cs := #[.int .i64 a1_0, .int .i64 a1_1, .slice A1_2 l1_2.length c1_2, .slice none 0 0]) ?_ 3 _ rfl; (with_reducible repeat (first | refine blk_drewN ?_ _ | refine blk_drew ?_ | refine blk_alloc ?_ _)); refine blk_put (cs := #[.int .i64 a1_0, .int .i64 a1_1, .slice none 0 0, .slice none 0 0]) ?_ 2 _ rfl; (with_reducible repeat (first | refine blk_drewN ?_ _ | refine blk_drew ?_ | refine blk_alloc ?_ _)); refine blk_put (cs := #[.int .i64 a1_0, .int .i64 0, .slice none 0 0, .slice none 0 0]) ?_ 1 _ rfl; (with_reducible repeat (first | refine blk_drewN ?_ _ | refine blk_drew ?_ | refine blk_alloc ?_ _)); refine blk_put (cs := #[.int .i64 0, .int .i64 0, .slice none 0 0, .slice none 0 0]) ?_ 0 _ rfl; (with_reducible repeat (first | refine blk_drewN ?_ _ | refine blk_drew ?_ | refine blk_alloc ?_ _)); exact BK135.out) Try.underlying27 rfl (by kernel_rfl) rfl (by (with_reducible repeat (first | refine blk_drewN ?_ _ | refine blk_drew ?_ | refine blk_alloc ?_ _)); refine blk_put (cs := #[.bool false, .int .i64 0, .int .i64 0, .int .i64 0]) ?_ 3 _ rfl; (with_reducible repeat (first | refine blk_drewN ?_ _ | refine blk_drew ?_ | refine blk_alloc ?_ _)); refine blk_put (cs := #[.bool false, .int .i64 0, .int .i64 0, .int .i64 0]) ?_ 2 _ rfl; (with_reducible repeat (first | refine blk_drewN ?_ _ | refine blk_drew ?_ | refine blk_alloc ?_ _)); refine blk_put (cs := #[.bool false, .int .i64 0, .int .i64 0, .int .i64 0]) ?_ 1 _ rfl; (with_reducible repeat (first | refine blk_drewN ?_ _ | refine blk_drew ?_ | refine blk_alloc ?_ _)); refine blk_put (cs := #[.bool false, .int .i64 0, .int .i64 0, .int .i64 0]) ?_ 0 _ rfl; (with_reducible repeat (first | refine blk_drewN ?_ _ | refine blk_drew ?_ | refine blk_alloc ?_ _)); refine blk_far ?_ NB136_135.out _; (with_reducible repeat (first | refine blk_drewN ?_ _ | refine blk_drew ?_ | refine blk_alloc ?_ _)); refine blk_far ?_ NB136_135.out _; (with_reducible repeat (first | refine blk_drewN ?_ _ | refine blk_drew ?_ | refine blk_alloc ?_ _)); refine blk_far ?_ NB136_135.out _; (with_reducible repeat (first | refine blk_drewN ?_ _ | refine blk_drew ?_ | refine blk_alloc ?_ _)); refine blk_far ?_ NB136_135.out _; (with_reducible repeat (first | refine blk_drewN ?_ _ | refine blk_drew ?_ | refine blk_alloc ?_ _)); exact BK136.out) Try.underlying32 rfl (by kernel_rfl)) rfl ?_
    exact ⟨_, _, by first | (with_reducible rfl) | rfl | (simp [errW_none, errW_some] <;> rfl) | (simp [*, errW_none, errW_some] <;> rfl), by (with_reducible repeat (first | apply Kd.V_alloc | apply Kd.V_drewN | apply Kd.V_drew)); exact Kd.V_mono (Kd.V_far (p := ⟨gb136, 3, none⟩) (Kd.V_far (p := ⟨gb136, 2, none⟩) (Kd.V_far (p := ⟨gb136, 1, none⟩) (Kd.V_far (p := ⟨gb136, 0, none⟩) (Kd.V_far (p := ⟨gb135, 3, none⟩) (Kd.V_far (p := ⟨gb135, 2, none⟩) (Kd.V_far (p := ⟨gb135, 1, none⟩) (Kd.V_far (p := ⟨gb135, 0, none⟩) (Kd.V_mono (Kd.V_mono HO_135002.out (fun k_ hk => (⟨hk, hk.2.2.2.1⟩ : _ ∧ k_ ≠ gb135))) (fun k_ hk => (⟨hk, hk.1.2.2.2.2⟩ : _ ∧ k_ ≠ gb136))) (fun _ hk => hk.1.2) (.int .i64 a1_0)) (fun _ hk => hk.1.2) (.int .i64 a1_1)) (fun _ hk => hk.1.2) (.slice A1_2 l1_2.length c1_2)) (fun _ hk => hk.1.2) (.slice A1_3 l1_3.length c1_3)) (fun _ hk => hk.2) (.bool false)) (fun _ hk => hk.2) (.int .i64 0)) (fun _ hk => hk.2) (.int .i64 0)) (fun _ hk => hk.2) (.int .i64 0)) (fun _ hk => hk.1.1.1), by (with_reducible repeat (first | apply Kd.V_alloc | apply Kd.V_drewN | apply Kd.V_drew)); exact Kd.V_mono (Kd.V_far (p := ⟨gb136, 3, none⟩) (Kd.V_far (p := ⟨gb136, 2, none⟩) (Kd.V_far (p := ⟨gb136, 1, none⟩) (Kd.V_far (p := ⟨gb136, 0, none⟩) (Kd.V_far (p := ⟨gb135, 3, none⟩) (Kd.V_far (p := ⟨gb135, 2, none⟩) (Kd.V_far (p := ⟨gb135, 1, none⟩) (Kd.V_far (p := ⟨gb135, 0, none⟩) (Kd.V_mono (Kd.V_mono HO_135003.out (fun k_ hk => (⟨hk, hk.2.2.2.1⟩ : _ ∧ k_ ≠ gb135))) (fun k_ hk => (⟨hk, hk.1.2.2.2.2⟩ : _ ∧ k_ ≠ gb136))) (fun _ hk => hk.1.2) (.int .i64 a1_0)) (fun _ hk => hk.1.2) (.int .i64 a1_1)) (fun _ hk => hk.1.2) (.slice A1_2 l1_2.length c1_2)) (fun _ hk => hk.1.2) (.slice A1_3 l1_3.length c1_3)) (fun _ hk => hk.2) (.bool false)) (fun _ hk => hk.2) (.int .i64 0)) (fun _ hk => hk.2) (.int .i64 0)) (fun _ hk => hk.2) (.int .i64 0)) (fun _ hk => hk.1.1.1), bl HB⟩
   ·replace c39 := Bool.eq_false_iff.mpr c39
    subst c39
    rw [if_neg (show ¬ (false = true) by decide)] at H
    obtain ⟨ji49, hji49⟩ : ∃ j_ : Int, (mx a2 a1_0) = j_ := ⟨_, rfl⟩
    replace H : ((exact_since.f kj4 a0_0 a0_1 a0_2 a0_3 l1_3 (ji49)).bind fun t140 => ((api_Hit.f t140).bind fun t143 => ((exact_count.f kj4 t143).bind fun t147 => (if (wrap64 (t147 + a3)) ≤ a0_1 then (if (t143.length : Int) = 0 then (exact_Ask.j1 kj4 ji49 a3 t143 true a0_0 a0_1 a0_2 a0_3 true 0 0 0) else (if 0 ≤ (wrap64 ((t143.length : Int) - 1)) then (if (wrap64 ((t143.length : Int) - 1)) < (t143.length : Int) then (exact_Ask.j1 kj4 ji49 a3 t143 (((rd_T50 t143 (wrap64 ((t143.length : Int) - 1))).f0) != (ji49)) a0_0 a0_1 a0_2 a0_3 true 0 0 0) else (none)) else (none))) else (if a3 > a0_1 then (exact_Ask.j2 kj4 ji49 t143 a0_0 a0_1 a0_2 a0_3 false 0 2199023255552 0) else ((exact_wait.f kj4 a0_0 a0_1 a0_2 a0_3 t143 (ji49) (wrap64 (a0_1 - a3))).bind fun t156 => (exact_Ask.j2 kj4 ji49 t143 a0_0 a0_1 a0_2 a0_3 false 0 t156 0))))))) = some (r1, r2, r3, r4, r5, r6, r7, r8) := by first | (rw [hji49] at H; exact H) | (simp only [hji49] at H ⊢; exact H)
    have hji49_ : (if a2 < a1_0 then a1_0 else a2) = ji49 := hji49
    replace H := Option.bind_eq_some_iff.mp H
    obtain ⟨t140, A500, H⟩ := H
    have A50 := Aside0.mk A500
    clear A500
    replace H := Option.bind_eq_some_iff.mp H
    obtain ⟨t143, A510, H⟩ := H
    have A51 := Aside0.mk A510
    clear A510
    have HC52 := Aside0.mk H
    clear H
    have hnb53 := NB134_133.out
    have hnc53 := NB133_134.out
    have hnb54 := NB134_135.out
    have hnc54 := NB135_134.out
    have hnb55 := NB134_136.out
    have hnc55 := NB136_134.out
    obtain ⟨hcz56_0, hcz56_1, hcz56_2, hcz56_3⟩ := ce4 BK134
    obtain ⟨hfz56_0, hfz56_1, hfz56_2, hfz56_3⟩ := fr4 BK134
    have hnb57 := NB133_135.out
    have hnc57 := NB135_133.out
    have hnb58 := NB133_136.out
    have hnc58 := NB136_133.out
    obtain ⟨hcz59_0, hcz59_1, hcz59_2, hcz59_3⟩ := ce4 BK133
    obtain ⟨hfz59_0, hfz59_1, hfz59_2, hfz59_3⟩ := fr4 BK133
    go_upto_block 0 with (first | ((with_reducible refine gate_callee (f := 24) rfl ?_); refine goesL_ (some 36) rfl rfl Try.func24 (by kernel_rfl) rfl #[.agg #[.int .i64 a0_0, .int .i64 a0_1, .int .i64 a0_2, .int .i64 a0_3], .slice A1_3 l1_3.length c1_3, .int .i64 ji49] rfl (by (try simp only [List.map_toArray, List.map_cons, List.map_nil]); first | done | (simp only [hji49]; rfl) | rfl | (simp only [List.length_drop, List.length_take]; rfl)) ?_; (with_reducible refine (exact_since.calls kj4 a0_0 a0_1 a0_2 a0_3 (fun k_ => (((P1_2_ k_ ∨ P1_3_ k_) ∨ w.heap.size ≤ k_) ∧ (k_ ≠ gb133 ∧ (k_ ≠ gb134 ∧ (k_ ≠ gb135 ∧ k_ ≠ gb136))))) _ _ l1_3 ji49 t140 _ ?side1 A50.out).mono ?_); (case side1 => exact HO_135003.out); rintro e w60 ⟨v141, rfl, ho0, hb⟩; refine ⟨_, rfl, ?_⟩; have HO142 := Aside0.mk (Kd.V_lower (Kd.V_mono (ok' := fun k_ => ((P1_2_ k_ ∨ P1_3_ k_) ∨ w.heap.size ≤ k_) ∧ k_ ≠ gb133 ∧ k_ ≠ gb134 ∧ k_ ≠ gb135 ∧ k_ ≠ gb136) ho0 (fun k_ hk_ => ⟨Or.elim hk_ (fun hs_ => hs_.1) (fun hn_ => (.inr (Nat.le_trans (below_size (bl HB)) hn_))), Or.elim hk_ (fun hs_ => hs_.2.1) (fun hn_ => (Kd.freshB (bo BK133) k_ hn_)), Or.elim hk_ (fun hs_ => hs_.2.2.1) (fun hn_ => (Kd.freshB (bo BK134) k_ hn_)), Or.elim hk_ (fun hs_ => hs_.2.2.2.1) (fun hn_ => (Kd.freshB (bo BK135) k_ hn_)), Or.elim hk_ (fun hs_ => hs_.2.2.2.2) (fun hn_ => (Kd.freshB (bo BK136) k_ hn_))⟩)) (below_size (bl HB))); replace HO_135002 := vb HO_135002 hb; replace HO_135003 := vb HO_135003 hb; replace BK133 := Aside0.mk (blk_below (bo BK133) hb); replace BK134 := Aside0.mk (blk_below (bo BK134) hb); replace BK135 := Aside0.mk (blk_below (bo BK135) hb); replace BK136 := Aside0.mk (blk_below (bo BK136) hb); replace HB := Aside0.mk (below_step (bl HB) hb); (try clear hb); (try clear hb2); (try clear hk); (try clear hi); (try clear ho0); obtain ⟨Ao61, co61, eo61⟩ := Kd.V_slice HO142.out; subst eo61) | ((with_reducible refine gate_callee (f := 23) rfl ?_); refine goesL_ (some 37) rfl rfl Try.func23 (by kernel_rfl) rfl #[.slice Ao61 t140.length co61] rfl (by (try simp only [List.map_toArray, List.map_cons, List.map_nil]); first | done | rfl | (simp only [List.length_drop, List.length_take]; rfl)) ?_; (with_reducible refine (api_Hit.calls _ _ t140 t143 _ ?side1 ?side2 A51.out).mono ?_); (case side1 => repeat (first | exact (Kd.V_reads' HO142.out).2.2 | (with_reducible refine Kd.C_alloc ?_ _) | (with_reducible refine Kd.C_drewN ?_ _) | (with_reducible refine Kd.C_drew ?_))); (case side2 => exact (Kd.V_reads' HO142.out).2.1); rintro e w62 ⟨v144, rfl, ho0, hb⟩; refine ⟨_, rfl, ?_⟩; have HO145 := Aside0.mk (Kd.R_lower (Kd.R_newM (M := fun k_ => (w.heap.size ≤ k_)) ho0 (below_size (bl HB)) (fun k_ h_ => h_)) (below_size (bl HB))); replace HO_135002 := Aside0.mk (Kd.V_elder' (by (with_reducible repeat (first | apply Kd.V_alloc | apply Kd.V_drewN | apply Kd.V_drew)); exact HO_135002.out) (Kd.R_base ho0) hb); replace HO_135003 := Aside0.mk (Kd.V_elder' (by (with_reducible repeat (first | apply Kd.V_alloc | apply Kd.V_drewN | apply Kd.V_drew)); exact HO_135003.out) (Kd.R_base ho0) hb); replace HO142 := Aside0.mk (Kd.V_elder' (by (with_reducible repeat (first | apply Kd.V_alloc | apply Kd.V_drewN | apply Kd.V_drew)); exact HO142.out) (Kd.R_base ho0) hb); replace BK133 := Aside0.mk (blk_below (bo BK133) hb); replace BK134 := Aside0.mk (blk_below (bo BK134) hb); replace BK135 := Aside0.mk (blk_below (bo BK135) hb); replace BK136 := Aside0.mk (blk_below (bo BK136) hb); replace HB := Aside0.mk (below_step (bl HB) hb); (try clear hb); (try clear hb2); (try clear hk); (try clear hi); (try clear ho0)) | ((with_reducible refine gate_dst (N := 11) rfl ?_); (try (refine gate_guard (by rfl) ?_; dsimp only)); refine box_event ?hg (N := 11) ?hd (cs := #[.bool false, .int .i64 0, .int .i64 0, .int .i64 0]) (t := 32) ?hr ?_; (case hd => rfl); (case hg => rfl); (case hr => first | (go_simp; done) | (go_simp; rfl)); intro gb146 hg w63 hbox hb; have BK146 := Aside0.mk (hbox); have GW146 := Aside0.mk ((by rw [hg]; exact (below_size (bl HB)) : w.heap.size ≤ gb146)); have GE146 := Aside0.mk ((by rw [hg]; exact (below_size (bl HB)) : w.heap.size ≤ gb146)); have NB133_146 := nb BK133 hg; have NB146_133 := bn BK133 hg; have NB134_146 := nb BK134 hg; have NB146_134 := bn BK134 hg; have NB135_146 := nb BK135 hg; have NB146_135 := bn BK135 hg; have NB136_146 := nb BK136 hg; have NB146_136 := bn BK136 hg; replace HO_135002 := ve HO_135002 hg hb; replace HO_135003 := ve HO_135003 hg hb; replace HO142 := ve HO142 hg hb; replace HO145 := Aside0.mk (Kd.R_below (by (with_reducible repeat (first | apply Kd.R_alloc | apply Kd.R_drewN | apply Kd.R_drew)); exact HO145.out) hb); replace BK133 := Aside0.mk (blk_below (bo BK133) hb); replace BK134 := Aside0.mk (blk_below (bo BK134) hb); replace BK135 := Aside0.mk (blk_below (bo BK135) hb); replace BK136 := Aside0.mk (blk_below (bo BK136) hb); replace HB := Aside0.mk (below_step (bl HB) hb); clear hb hbox hg))
    (try simp only [Act.put, List.setIfInBounds_toArray, List.set_cons_zero, List.set_cons_succ])
    go_cut [10] (fun v10 wc => ∃ (kq : Nat) (x10_51 : List (S50)) (x135003_51 : List (S50)) (x147000_51 : Bool) (x147002_51 : Int) (u135003 : Value), Aside0 (exact_Ask.j2 kq ji49 x10_51 a0_0 a0_1 a0_2 a0_3 x147000_51 0 x147002_51 0 = some (r1, r2, r3, r4, r5, r6, r7, r8)) ∧ Aside0 (kq ≤ kj4) ∧ Aside0 (Kd.R k50 50 wc w.heap.size (fun k_ => (w.heap.size ≤ k_)) v10 x10_51) ∧ Aside0 (Kd.V (Kd.int .i64) 3 wc w.heap.size (fun k_ => ((P1_2_ k_ ∨ P1_3_ k_) ∨ w.heap.size ≤ k_) ∧ some k_ ≠ (v10 : Value).ownBlock ∧ k_ ≠ gb133 ∧ k_ ≠ gb134 ∧ k_ ≠ gb135 ∧ k_ ≠ gb136 ∧ k_ ≠ gb146) (.slice A1_2 l1_2.length c1_2) l1_2) ∧ Aside0 (Kd.V k50 50 wc w.heap.size (fun k_ => ((P1_2_ k_ ∨ P1_3_ k_) ∨ w.heap.size ≤ k_) ∧ some k_ ≠ (v10 : Value).ownBlock ∧ k_ ≠ gb133 ∧ k_ ≠ gb134 ∧ k_ ≠ gb135 ∧ k_ ≠ gb136 ∧ k_ ≠ gb146) u135003 x135003_51) ∧ Aside0 (wc.heap[gb133]? = some (.cells #[.int .i64 a0_0, .int .i64 a0_1, .int .i64 a0_2, .int .i64 a0_3] 23 (0, 0))) ∧ Aside0 (wc.heap[gb134]? = some (.cells #[.int .i64 a1_0, .int .i64 a1_1, (.slice A1_2 l1_2.length c1_2), u135003] 27 (0, 0))) ∧ Aside0 (wc.heap[gb135]? = some (.cells #[.int .i64 0, .int .i64 0, (.slice none 0 0), (.slice none 0 0)] 27 (0, 0))) ∧ Aside0 (wc.heap[gb136]? = some (.cells #[.bool false, .int .i64 0, .int .i64 0, .int .i64 0] 32 (0, 0))) ∧ Aside0 (wc.heap[gb146]? = some (.cells #[.bool x147000_51, .int .i64 0, .int .i64 x147002_51, .int .i64 0] 32 (0, 0))) ∧ Aside0 (Below w.heap.size w wc))
    case first =>
     have H := HC52.out
     clear HC52
     replace H := Option.bind_eq_some_iff.mp H
     obtain ⟨t147, A640, H⟩ := H
     have A64 := Aside0.mk A640
     clear A640
     by_cases c65 : (wrap64 (t147 + a3)) ≤ a0_1
     ·rw [if_pos c65] at H
      have c65b0 : decide ((wrap64 (t147 + a3)) ≤ a0_1) = true := decide_eq_true c65
      clear c65
      (first | rw [c65b0] | (simp only [i64_w, i32_w]; rw [c65b0]) | skip)
      have HC66 := Aside0.mk H
      clear H
      try go_wp2
      replace HO_135002 := Aside0.mk (Kd.V_drew HO_135002.out)
      replace HO_135003 := Aside0.mk (Kd.V_drew HO_135003.out)
      replace HO142 := Aside0.mk (Kd.V_drew HO142.out)
      replace HO145 := Aside0.mk (Kd.R_drew HO145.out)
      replace BK133 := Aside0.mk (blk_drew BK133.out)
      replace BK134 := Aside0.mk (blk_drew BK134.out)
      replace BK135 := Aside0.mk (blk_drew BK135.out)
      replace BK136 := Aside0.mk (blk_drew BK136.out)
      replace BK146 := Aside0.mk (blk_drew BK146.out)
      replace HB := Aside0.mk (below_drew1 HB.out)
      obtain ⟨Ao68, co68, eo68⟩ := Kd.R_slice HO145.out
      (first | subst eo68 | (injection eo68 with f1_ f2_ f3_; have f4_ := f1_.symm; have f5_ := f3_.symm; clear f1_ f2_ f3_; subst f4_; subst f5_))
      refine start_ (n := 8) (S := fun w' => w'.cell? ⟨gb133, 0, none⟩ = some (.int .i64 a0_0) ∧ w'.cell? ⟨gb133, 1, none⟩ = some (.int .i64 a0_1) ∧ w'.cell? ⟨gb133, 2, none⟩ = some (.int .i64 a0_2) ∧ w'.cell? ⟨gb133, 3, none⟩ = some (.int .i64 a0_3)) (ds := []) #[false, false, false, false, false, false, false, false] (by kernel_rfl) rfl rfl ⟨(blk_cell BK133.out 0).trans rfl, (blk_cell BK133.out 1).trans rfl, (blk_cell BK133.out 2).trans rfl, (blk_cell BK133.out 3).trans rfl⟩ (fun hHeld => ?_); refine with_tabW exact_Ask.tab7 exact_Ask.bits7 (fun HT_ HW_ => ?_)
      generalize w63.drew = w67 at HO_135002 HO_135003 HO142 HO145 BK133 BK134 BK135 BK136 BK146 HB hHeld ⊢
      refine pureA 0 48 HT_ ?_
      refine pureA 2 50 HT_ ?_
      refine pureA 4 52 HT_ ?_
      refine takeA 5 53 HT_ HW_ hHeld ?_
      refine one_ (i := 1) (N := some 49) #[true, true, true, false, true, true, false, false] rfl rfl (one_of HT_.out (by kernel_rfl)) (by decide) (fun K hK => ?_)
      refine goes_ Try.func25 (by kernel_rfl) rfl #[.slice Ao68 t143.length co68] (by rfl) rfl rfl (by (try simp only [List.map_toArray, List.map_cons, List.map_nil]); first | done | rfl | (simp only [List.length_drop, List.length_take]; rfl)) ?_
      with_reducible refine (exact_count.calls kj4 _ _ t143 t147 _ ?side1 ?side2 A64.out).mono ?_
      (case side1 => repeat (first | exact (Kd.R_reads' HO145.out).2.2 | (with_reducible refine Kd.C_alloc ?_ _) | (with_reducible refine Kd.C_drewN ?_ _) | (with_reducible refine Kd.C_drew ?_)))
      (case side2 => exact (Kd.R_reads' HO145.out).2.1)
      rintro e w69 ⟨rfl, hb⟩
      refine ⟨_, rfl, ?_⟩
      replace HO_135002 := vb HO_135002 hb
      replace HO_135003 := vb HO_135003 hb
      replace HO142 := vb HO142 hb
      replace HO145 := Aside0.mk (Kd.R_below (by (with_reducible repeat (first | apply Kd.R_alloc | apply Kd.R_drewN | apply Kd.R_drew)); exact HO145.out) hb)
      replace BK133 := Aside0.mk (blk_below (bo BK133) hb)
      replace BK134 := Aside0.mk (blk_below (bo BK134) hb)
      replace BK135 := Aside0.mk (blk_below (bo BK135) hb)
      replace BK136 := Aside0.mk (blk_below (bo BK136) hb)
      replace BK146 := Aside0.mk (blk_below (bo BK146) hb)
      replace HB := Aside0.mk (below_step (bl HB) hb)
      (try clear hb)
      (try clear hb2)
      (try clear hk)
      (try clear hi)
      refine hK.out _ _ ⟨(blk_cell BK133.out 0).trans rfl, (blk_cell BK133.out 1).trans rfl, (blk_cell BK133.out 2).trans rfl, (blk_cell BK133.out 3).trans rfl⟩ (fun hHeld => ?_)
      clear hK K
      refine norm_ (a' := ?_) ?_ ?_
      rotate_left
      ·show Act.put _ (some 49) _ = _
       simp only [Act.put, List.setIfInBounds_toArray, List.set_cons_zero, List.set_cons_succ, i64_w, i32_w]
       rfl
      refine pureA 3 51 HT_ ?_
      refine pureA 6 54 HT_ ?_
      refine pureA 7 47 HT_ ?_
      refine done_ (done_of HT_.out (by kernel_rfl)) ?_
      have hnb70 := NB146_133.out
      have hnc70 := NB133_146.out
      have hnb71 := NB146_134.out
      have hnc71 := NB134_146.out
      have hnb72 := NB146_135.out
      have hnc72 := NB135_146.out
      have hnb73 := NB146_136.out
      have hnc73 := NB136_146.out
      obtain ⟨hcz74_0, hcz74_1, hcz74_2, hcz74_3⟩ := ce4 BK146
      obtain ⟨hfz74_0, hfz74_1, hfz74_2, hfz74_3⟩ := fr4 BK146
      go_upto_region 9 with (fail)
      go_cut [69] (fun v69 wc => ∃ (kq : Nat) (x69_65 : Bool), v69 = .bool x69_65 ∧ Aside0 (exact_Ask.j1 kq ji49 a3 t143 x69_65 a0_0 a0_1 a0_2 a0_3 true 0 0 0 = some (r1, r2, r3, r4, r5, r6, r7, r8)) ∧ Aside0 (kq ≤ kj4) ∧ Aside0 (Kd.R k50 50 wc w.heap.size (fun k_ => (w.heap.size ≤ k_)) (.slice Ao68 t143.length co68) t143) ∧ Aside0 (Kd.V (Kd.int .i64) 3 wc w.heap.size (fun k_ => ((P1_2_ k_ ∨ P1_3_ k_) ∨ w.heap.size ≤ k_) ∧ some k_ ≠ ((.slice Ao68 t143.length co68) : Value).ownBlock ∧ k_ ≠ gb133 ∧ k_ ≠ gb134 ∧ k_ ≠ gb135 ∧ k_ ≠ gb136 ∧ k_ ≠ gb146) (.slice A1_2 l1_2.length c1_2) l1_2) ∧ Aside0 (Kd.V k50 50 wc w.heap.size (fun k_ => ((P1_2_ k_ ∨ P1_3_ k_) ∨ w.heap.size ≤ k_) ∧ some k_ ≠ ((.slice Ao68 t143.length co68) : Value).ownBlock ∧ k_ ≠ gb133 ∧ k_ ≠ gb134 ∧ k_ ≠ gb135 ∧ k_ ≠ gb136 ∧ k_ ≠ gb146) (.slice A1_3 l1_3.length c1_3) l1_3) ∧ Aside0 (wc.heap[gb133]? = some (.cells #[.int .i64 a0_0, .int .i64 a0_1, .int .i64 a0_2, .int .i64 a0_3] 23 (0, 0))) ∧ Aside0 (wc.heap[gb134]? = some (.cells #[.int .i64 a1_0, .int .i64 a1_1, (.slice A1_2 l1_2.length c1_2), (.slice A1_3 l1_3.length c1_3)] 27 (0, 0))) ∧ Aside0 (wc.heap[gb135]? = some (.cells #[.int .i64 0, .int .i64 0, (.slice none 0 0), (.slice none 0 0)] 27 (0, 0))) ∧ Aside0 (wc.heap[gb136]? = some (.cells #[.bool false, .int .i64 0, .int .i64 0, .int .i64 0] 32 (0, 0))) ∧ Aside0 (wc.heap[gb146]? = some (.cells #[.bool true, .int .i64 0, .int .i64 0, .int .i64 0] 32 (0, 0))) ∧ Aside0 (Below w.heap.size w wc))
      case first =>
       have H := HC66.out
       clear HC66
       by_cases c75 : (t143.length : Int) = 0
       ·rw [if_pos c75] at H
        have c75b0 : ((t143.length : Int) == 0) = true := beq_iff_eq.mpr c75
        have c75b1 : ((t143.length : Int) != 0) = false := bne_eq_false_iff_eq.mpr c75
        clear c75
        (first | rw [c75b0] | (simp only [i64_w, i32_w]; rw [c75b0]) | skip)
        have H' := Aside0.mk H
        clear H
        go_wp2
        go_meet
        case rel => exact ⟨_, (true), (by first | (with_reducible rfl) | rfl | (simp; done) | (simp [*]; done)), H', ⟨by have := HJ4.out; first | omega | exact Nat.le_refl _⟩, ⟨by (with_reducible repeat (first | apply Kd.R_alloc | apply Kd.R_drewN | apply Kd.R_drew)); exact Kd.R_mono (Kd.R_far (p := ⟨gb146, 0, none⟩) (Kd.R_types HO145.out BK146.out (by decide)) (fun _ hk => hk.2) (.bool true)) (fun _ hk => hk.1.1)⟩, ⟨by (with_reducible repeat (first | apply Kd.V_alloc | apply Kd.V_drewN | apply Kd.V_drew)); exact Kd.V_mono (Kd.V_far (p := ⟨gb146, 0, none⟩) (Kd.V_mono HO_135002.out (fun k_ hk => (⟨hk, hk.2⟩ : _ ∧ k_ ≠ gb146))) (fun _ hk => hk.2) (.bool true)) (fun _ hk => ⟨hk.1.1.1.1, ⟨hk.1.1.2, ⟨hk.1.1.1.2.1, ⟨hk.1.1.1.2.2.1, ⟨hk.1.1.1.2.2.2.1, ⟨hk.1.1.1.2.2.2.2, hk.1.2⟩⟩⟩⟩⟩⟩)⟩, ⟨by (with_reducible repeat (first | apply Kd.V_alloc | apply Kd.V_drewN | apply Kd.V_drew)); exact Kd.V_mono (Kd.V_far (p := ⟨gb146, 0, none⟩) (Kd.V_mono HO_135003.out (fun k_ hk => (⟨hk, hk.2⟩ : _ ∧ k_ ≠ gb146))) (fun _ hk => hk.2) (.bool true)) (fun _ hk => ⟨hk.1.1.1.1, ⟨hk.1.1.2, ⟨hk.1.1.1.2.1, ⟨hk.1.1.1.2.2.1, ⟨hk.1.1.1.2.2.2.1, ⟨hk.1.1.1.2.2.2.2, hk.1.2⟩⟩⟩⟩⟩⟩)⟩, ⟨by (with_reducible repeat (first | refine blk_drewN ?_ _ | refine blk_drew ?_ | refine blk_alloc ?_ _)); refine blk_far ?_ NB133_146.out _; (with_reducible repeat (first | refine blk_drewN ?_ _ | refine blk_drew ?_ | refine blk_alloc ?_ _)); exact BK133.out⟩, ⟨by (with_reducible repeat (first | refine blk_drewN ?_ _ | refine blk_drew ?_ | refine blk_alloc ?_ _)); refine blk_far ?_ NB134_146.out _; (with_reducible repeat (first | refine blk_drewN ?_ _ | refine blk_drew ?_ | refine blk_alloc ?_ _)); exact BK134.out⟩, ⟨by (with_reducible repeat (first | refine blk_drewN ?_ _ | refine blk_drew ?_ | refine blk_alloc ?_ _)); refine blk_far ?_ NB135_146.out _; (with_reducible repeat (first | refine blk_drewN ?_ _ | refine blk_drew ?_ | refine blk_alloc ?_ _)); exact BK135.out⟩, ⟨by (with_reducible repeat (first | refine blk_drewN ?_ _ | refine blk_drew ?_ | refine blk_alloc ?_ _)); refine blk_far ?_ NB136_146.out _; (with_reducible repeat (first | refine blk_drewN ?_ _ | refine blk_drew ?_ | refine blk_alloc ?_ _)); exact BK136.out⟩, ⟨by (with_reducible repeat (first | refine blk_drewN ?_ _ | refine blk_drew ?_ | refine blk_alloc ?_ _)); refine blk_put (cs := #[.bool false, .int .i64 0, .int .i64 0, .int .i64 0]) ?_ 0 _ rfl; (with_reducible repeat (first | refine blk_drewN ?_ _ | refine blk_drew ?_ | refine blk_alloc ?_ _)); exact BK146.out⟩, ⟨bl HB⟩⟩
       ·rw [if_neg c75] at H
        have c75b0 : ((t143.length : Int) == 0) = false := beq_eq_false_iff_ne.mpr c75
        have c75b1 : ((t143.length : Int) != 0) = true := bne_iff_ne.mpr c75
        have c75b2 : ¬ (t143 = []) := fun h_ => c75 (by rw [h_]; rfl)
        (first | rw [c75b0] | (simp only [i64_w, i32_w]; rw [c75b0]) | skip)
        obtain ⟨ji76, hji76⟩ : ∃ j_ : Int, (wrap64 ((t143.length : Int) - 1)) = j_ := ⟨_, rfl⟩
        replace H : (if 0 ≤ (ji76) then (if (ji76) < (t143.length : Int) then (exact_Ask.j1 kj4 ji49 a3 t143 (((rd_T50 t143 (ji76)).f0) != (ji49)) a0_0 a0_1 a0_2 a0_3 true 0 0 0) else (none)) else (none)) = some (r1, r2, r3, r4, r5, r6, r7, r8) := by first | (rw [hji76] at H; exact H) | (simp only [hji76] at H ⊢; exact H)
        have hji76w : (IntKind.i64.wrap ((t143.length : Int) - 1)) = ji76 := (i64_w _).trans hji76
        by_cases c77 : 0 ≤ (ji76)
        ·rw [if_pos c77] at H
         have c77b0 : decide (0 ≤ (ji76)) = true := decide_eq_true c77
         clear c77
         by_cases c78 : (ji76) < (t143.length : Int)
         ·rw [if_pos c78] at H
          have c78b0 : decide ((ji76) < (t143.length : Int)) = true := decide_eq_true c78
          clear c78
          have H' := Aside0.mk H
          clear H
          have p148 : 0 ≤ ((ji76) : Int) := of_decide_eq_true (by first | (with_reducible assumption) | assumption)
          have q148 : (ji76) < (t143.length : Int) := of_decide_eq_true (by first | (with_reducible assumption) | assumption)
          obtain ⟨ad148, e148, hx148_0, hx148_1⟩ := at_T50 (Kd.R_reads' HO145.out).2.2 (ji76) p148 q148
          cases e148
          have hn148_0 : ad148.block ≠ gb146 := Kd.own_blk (Kd.R_ne HO145.out BK146.out (by decide))
          replace hx148_0 := (cell_far (p := ⟨gb146, 0, none⟩) (by first | (rw [add_block]; exact hn148_0) | (show (Addr.add _ _).block ≠ _; rw [add_block]; exact hn148_0) | exact hn148_0) (.bool true)).trans hx148_0
          replace hx148_1 := (cell_far (p := ⟨gb146, 0, none⟩) (by first | (rw [add_block]; exact hn148_0) | (show (Addr.add _ _).block ≠ _; rw [add_block]; exact hn148_0) | exact hn148_0) (.bool true)).trans hx148_1
          clear hn148_0
          replace p148 := eq_true p148
          replace q148 := eq_true q148
          go_wp2
          go_meet
          case rel => exact ⟨_, ((((rd_T50 t143 (ji76)).f0) != (ji49))), (by first | (with_reducible rfl) | (simp only [← hji49, ← hji76]; with_reducible rfl) | (simp only [← hji49, ← hji76]; done) | rfl | (simp; done) | (simp only [← hji49, ← hji76] <;> (first | rfl | simp)) | (simp [*]; done)), H', ⟨by have := HJ4.out; first | omega | exact Nat.le_refl _⟩, ⟨by (with_reducible repeat (first | apply Kd.R_alloc | apply Kd.R_drewN | apply Kd.R_drew)); exact Kd.R_mono (Kd.R_far (p := ⟨gb146, 0, none⟩) (Kd.R_types HO145.out BK146.out (by decide)) (fun _ hk => hk.2) (.bool true)) (fun _ hk => hk.1.1)⟩, ⟨by (with_reducible repeat (first | apply Kd.V_alloc | apply Kd.V_drewN | apply Kd.V_drew)); exact Kd.V_mono (Kd.V_far (p := ⟨gb146, 0, none⟩) (Kd.V_mono HO_135002.out (fun k_ hk => (⟨hk, hk.2⟩ : _ ∧ k_ ≠ gb146))) (fun _ hk => hk.2) (.bool true)) (fun _ hk => ⟨hk.1.1.1.1, ⟨hk.1.1.2, ⟨hk.1.1.1.2.1, ⟨hk.1.1.1.2.2.1, ⟨hk.1.1.1.2.2.2.1, ⟨hk.1.1.1.2.2.2.2, hk.1.2⟩⟩⟩⟩⟩⟩)⟩, ⟨by (with_reducible repeat (first | apply Kd.V_alloc | apply Kd.V_drewN | apply Kd.V_drew)); exact Kd.V_mono (Kd.V_far (p := ⟨gb146, 0, none⟩) (Kd.V_mono HO_135003.out (fun k_ hk => (⟨hk, hk.2⟩ : _ ∧ k_ ≠ gb146))) (fun _ hk => hk.2) (.bool true)) (fun _ hk => ⟨hk.1.1.1.1, ⟨hk.1.1.2, ⟨hk.1.1.1.2.1, ⟨hk.1.1.1.2.2.1, ⟨hk.1.1.1.2.2.2.1, ⟨hk.1.1.1.2.2.2.2, hk.1.2⟩⟩⟩⟩⟩⟩)⟩, ⟨by (with_reducible repeat (first | refine blk_drewN ?_ _ | refine blk_drew ?_ | refine blk_alloc ?_ _)); refine blk_far ?_ NB133_146.out _; (with_reducible repeat (first | refine blk_drewN ?_ _ | refine blk_drew ?_ | refine blk_alloc ?_ _)); exact BK133.out⟩, ⟨by (with_reducible repeat (first | refine blk_drewN ?_ _ | refine blk_drew ?_ | refine blk_alloc ?_ _)); refine blk_far ?_ NB134_146.out _; (with_reducible repeat (first | refine blk_drewN ?_ _ | refine blk_drew ?_ | refine blk_alloc ?_ _)); exact BK134.out⟩, ⟨by (with_reducible repeat (first | refine blk_drewN ?_ _ | refine blk_drew ?_ | refine blk_alloc ?_ _)); refine blk_far ?_ NB135_146.out _; (with_reducible repeat (first | refine blk_drewN ?_ _ | refine blk_drew ?_ | refine blk_alloc ?_ _)); exact BK135.out⟩, ⟨by (with_reducible repeat (first | refine blk_drewN ?_ _ | refine blk_drew ?_ | refine blk_alloc ?_ _)); refine blk_far ?_ NB136_146.out _; (with_reducible repeat (first | refine blk_drewN ?_ _ | refine blk_drew ?_ | refine blk_alloc ?_ _)); exact BK136.out⟩, ⟨by (with_reducible repeat (first | refine blk_drewN ?_ _ | refine blk_drew ?_ | refine blk_alloc ?_ _)); refine blk_put (cs := #[.bool false, .int .i64 0, .int .i64 0, .int .i64 0]) ?_ 0 _ rfl; (with_reducible repeat (first | refine blk_drewN ?_ _ | refine blk_drew ?_ | refine blk_alloc ?_ _)); exact BK146.out⟩, ⟨bl HB⟩⟩
         ·rw [if_neg c78] at H
          exact absurd H (by simp)
        ·rw [if_neg c77] at H
         exact absurd H (by simp)
      case rest =>
       clear HC66
       try clear c11; try clear c13; try clear c39; try clear c65; try clear c65b0; try clear c75; try clear c75b0; try clear c75b1; try clear c75b2; try clear c77; try clear c77b0; try clear c78; try clear c78b0; try clear hcz18_0; try clear hcz18_1; try clear hcz18_2; try clear hcz18_3; try clear hcz21_0; try clear hcz21_1; try clear hcz21_2; try clear hcz21_3; try clear hcz26_0; try clear hcz26_1; try clear hcz26_2; try clear hcz26_3; try clear hcz29_0; try clear hcz29_1; try clear hcz29_2; try clear hcz29_3; try clear hcz34_0; try clear hcz34_1; try clear hcz34_2; try clear hcz34_3; try clear hcz37_0; try clear hcz37_1; try clear hcz37_2; try clear hcz37_3; try clear hcz43_0; try clear hcz43_1; try clear hcz43_2; try clear hcz43_3; try clear hcz46_0; try clear hcz46_1; try clear hcz46_2; try clear hcz46_3; try clear hcz48_0; try clear hcz48_1; try clear hcz48_2; try clear hcz48_3; try clear hcz56_0; try clear hcz56_1; try clear hcz56_2; try clear hcz56_3; try clear hcz59_0; try clear hcz59_1; try clear hcz59_2; try clear hcz59_3; try clear hcz74_0; try clear hcz74_1; try clear hcz74_2; try clear hcz74_3; try clear hfz18_0; try clear hfz18_1; try clear hfz18_2; try clear hfz18_3; try clear hfz21_0; try clear hfz21_1; try clear hfz21_2; try clear hfz21_3; try clear hfz26_0; try clear hfz26_1; try clear hfz26_2; try clear hfz26_3; try clear hfz29_0; try clear hfz29_1; try clear hfz29_2; try clear hfz29_3; try clear hfz34_0; try clear hfz34_1; try clear hfz34_2; try clear hfz34_3; try clear hfz37_0; try clear hfz37_1; try clear hfz37_2; try clear hfz37_3; try clear hfz43_0; try clear hfz43_1; try clear hfz43_2; try clear hfz43_3; try clear hfz46_0; try clear hfz46_1; try clear hfz46_2; try clear hfz46_3; try clear hfz48_0; try clear hfz48_1; try clear hfz48_2; try clear hfz48_3; try clear hfz56_0; try clear hfz56_1; try clear hfz56_2; try clear hfz56_3; try clear hfz59_0; try clear hfz59_1; try clear hfz59_2; try clear hfz59_3; try clear hfz74_0; try clear hfz74_1; try clear hfz74_2; try clear hfz74_3; try clear hx148_0; try clear hx148_1; try clear p148; try clear q148
       obtain ⟨kq, x69_65, rfl, HA, HJ65, HO_10, HO_135002, HO_135003, BK133, BK134, BK135, BK136, BK146, HB⟩ := hcut
       cases kq with
       | zero => exact absurd HA.out (by simp [exact_Ask.j1])
       | succ kj65 =>
        have H := HA.out
        clear HA
        simp only [exact_Ask.j1] at H
        by_cases c79 : x69_65 = true
        ·subst c79
         rw [if_pos rfl] at H
         by_cases c80 : t143.length < 8796093022208
         ·rw [if_pos c80] at H
          have LMc80 := Aside0.mk c80
          clear c80
          obtain ⟨y149, hy149⟩ : ∃ y_ : List (S50), y_ = (t143 ++ [(⟨ji49, 0⟩ : S50)]) := ⟨_, rfl⟩
          replace H : (if 0 ≤ (wrap64 ((y149.length : Int) - 1)) then (if (wrap64 ((y149.length : Int) - 1)) < (y149.length : Int) then (exact_Ask.j2 kj65 ji49 (y149.set ((wrap64 ((y149.length : Int) - 1)) : Int).toNat (⟨(rd_T50 y149 (wrap64 ((y149.length : Int) - 1))).f0, wrap64 (((rd_T50 y149 (wrap64 ((y149.length : Int) - 1))).f1) + a3)⟩ : S50)) a0_0 a0_1 a0_2 a0_3 true 0 0 0) else (none)) else (none)) = some (r1, r2, r3, r4, r5, r6, r7, r8) := by first | (rw [hy149]; with_reducible exact H) | (have H2_ := (Option.bind_some _ _).symm.trans H; rw [hy149]; with_reducible exact H2_) | (have H2_ := (Option.bind_some _ _).symm.trans H; with_reducible exact H2_) | with_reducible exact H | (rw [hy149]; exact H) | exact H
          have Ny149 := Aside0.mk hy149
          clear hy149
          obtain ⟨ji81, hji81⟩ : ∃ j_ : Int, (wrap64 ((y149.length : Int) - 1)) = j_ := ⟨_, rfl⟩
          replace H : (if 0 ≤ (ji81) then (if (ji81) < (y149.length : Int) then (exact_Ask.j2 kj65 ji49 (y149.set ((ji81) : Int).toNat (⟨(rd_T50 y149 (ji81)).f0, wrap64 (((rd_T50 y149 (ji81)).f1) + a3)⟩ : S50)) a0_0 a0_1 a0_2 a0_3 true 0 0 0) else (none)) else (none)) = some (r1, r2, r3, r4, r5, r6, r7, r8) := by first | (rw [hji81] at H; exact H) | (simp only [hji81] at H ⊢; exact H)
          have hji81w : (IntKind.i64.wrap ((y149.length : Int) - 1)) = ji81 := (i64_w _).trans hji81
          by_cases c82 : 0 ≤ (ji81)
          ·rw [if_pos c82] at H
           have c82b0 : decide (0 ≤ (ji81)) = true := decide_eq_true c82
           clear c82
           by_cases c83 : (ji81) < (y149.length : Int)
           ·rw [if_pos c83] at H
            have c83b0 : decide ((ji81) < (y149.length : Int)) = true := decide_eq_true c83
            clear c83
            obtain ⟨y153, hy153⟩ : ∃ y_ : List (S50), y_ = (y149.set ((ji81) : Int).toNat (⟨(rd_T50 y149 (ji81)).f0, wrap64 (((rd_T50 y149 (ji81)).f1) + a3)⟩ : S50)) := ⟨_, rfl⟩
            replace H : (exact_Ask.j2 kj65 ji49 y153 a0_0 a0_1 a0_2 a0_3 true 0 0 0) = some (r1, r2, r3, r4, r5, r6, r7, r8) := by first | (rw [hy153]; with_reducible exact H) | (have H2_ := (Option.bind_some _ _).symm.trans H; rw [hy153]; with_reducible exact H2_) | (have H2_ := (Option.bind_some _ _).symm.trans H; with_reducible exact H2_) | with_reducible exact H | (rw [hy153]; exact H) | exact H
            have Ny153 := Aside0.mk hy153
            clear hy153
            have H' := Aside0.mk H
            clear H
            go_wp2_with (first | ((with_reducible refine gate_builtin (b := .append) (xs := #[.tmp 70, .tmp 73]) rfl ?_); (try (refine gate_guard (by rfl) ?_; dsimp only)); at_builtin; refine Kd.R_append k50 (w0 := w) w.heap.size rfl (.tmp 70) (.tmp 73) 25 50 (.agg #[(.int .i64 0), (.int .i64 0)]) 16 rfl Try.underlying25 info50 rfl (by decide) (by omega) (.slice Ao68 t143.length co68) t143 (⟨ji49, 0⟩ : S50) [.int .i64 ji49, .int .i64 0] (fun k_ => (w.heap.size ≤ k_)) (fun _ => False) rfl rfl ?aP (fun _ hk => hk.elim) ?aF ?aO ?aB ?aS ?aL ?_; (case aP => exact k50_mkM _ _ _ (⟨ji49, 0⟩ : S50)); (case aB => exact (bl HB)); (case aF => exact (fun k_ hk => (Nat.le_trans (below_size (bl HB)) hk))); (case aO => exact (by (with_reducible repeat (first | apply Kd.R_alloc | apply Kd.R_drewN | apply Kd.R_drew)); exact HO_10.out)); (case aS => exact (below_size (bl HB))); (case aL => have := LMc80.out; omega); intro v150 w85 ho hb hg hat; rw [← Ny149.out] at ho; have HO151 := Aside0.mk (ho); replace HO_135002 := Aside0.mk (Kd.V_afterv (ok := (fun k_ => ((P1_2_ k_ ∨ P1_3_ k_) ∨ w.heap.size ≤ k_) ∧ k_ ≠ gb133 ∧ k_ ≠ gb134 ∧ k_ ≠ gb135 ∧ k_ ≠ gb136 ∧ k_ ≠ gb146)) (by (with_reducible repeat (first | apply Kd.V_alloc | apply Kd.V_drewN | apply Kd.V_drew)); exact Kd.V_mono HO_135002.out (fun _ hk => ⟨⟨hk.1, ⟨hk.2.2.1, ⟨hk.2.2.2.1, ⟨hk.2.2.2.2.1, ⟨hk.2.2.2.2.2.1, hk.2.2.2.2.2.2⟩⟩⟩⟩⟩, hk.2.1⟩)) hg hat); replace HO_135003 := Aside0.mk (Kd.V_afterv (ok := (fun k_ => ((P1_2_ k_ ∨ P1_3_ k_) ∨ w.heap.size ≤ k_) ∧ k_ ≠ gb133 ∧ k_ ≠ gb134 ∧ k_ ≠ gb135 ∧ k_ ≠ gb136 ∧ k_ ≠ gb146)) (by (with_reducible repeat (first | apply Kd.V_alloc | apply Kd.V_drewN | apply Kd.V_drew)); exact Kd.V_mono HO_135003.out (fun _ hk => ⟨⟨hk.1, ⟨hk.2.2.1, ⟨hk.2.2.2.1, ⟨hk.2.2.2.2.1, ⟨hk.2.2.2.2.2.1, hk.2.2.2.2.2.2⟩⟩⟩⟩⟩, hk.2.1⟩)) hg hat); replace BK133 := Aside0.mk (blk_grown (g := gb133) (o := .cells #[.int .i64 a0_0, .int .i64 a0_1, .int .i64 a0_2, .int .i64 a0_3] 23 (0, 0)) (bo BK133) hg (Kd.R_ne HO_10.out BK133.out (by decide))); replace BK134 := Aside0.mk (blk_grown (g := gb134) (o := .cells #[.int .i64 a1_0, .int .i64 a1_1, .slice A1_2 l1_2.length c1_2, .slice A1_3 l1_3.length c1_3] 27 (0, 0)) (bo BK134) hg (Kd.R_ne HO_10.out BK134.out (by decide))); replace BK135 := Aside0.mk (blk_grown (g := gb135) (o := .cells #[.int .i64 0, .int .i64 0, .slice none 0 0, .slice none 0 0] 27 (0, 0)) (bo BK135) hg (Kd.R_ne HO_10.out BK135.out (by decide))); replace BK136 := Aside0.mk (blk_grown (g := gb136) (o := .cells #[.bool false, .int .i64 0, .int .i64 0, .int .i64 0] 32 (0, 0)) (bo BK136) hg (Kd.R_ne HO_10.out BK136.out (by decide))); replace BK146 := Aside0.mk (blk_grown (g := gb146) (o := .cells #[.bool true, .int .i64 0, .int .i64 0, .int .i64 0] 32 (0, 0)) (bo BK146) hg (Kd.R_ne HO_10.out BK146.out (by decide))); replace HB := Aside0.mk (hb); clear HO_10; clear ho hb hg hat; obtain ⟨Ao86, co86, eo86⟩ := Kd.R_slice HO151.out; subst eo86; have p152 : 0 ≤ ((ji81) : Int) := of_decide_eq_true (by first | (with_reducible assumption) | assumption); have q152 : (ji81) < (y149.length : Int) := of_decide_eq_true (by first | (with_reducible assumption) | assumption); obtain ⟨ad152, e152, hx152_0, hx152_1⟩ := at_T50 (Kd.R_reads' HO151.out).2.2 (ji81) p152 q152; cases e152; replace p152 := eq_true p152; replace q152 := eq_true q152; have p84 : 0 ≤ ((ji81) : Int) := of_decide_eq_true (by first | (with_reducible assumption) | assumption); have q84 : ((ji81) : Int) < ((y149.length : Int) : Int) := of_decide_eq_true (by first | (with_reducible assumption) | assumption); obtain ⟨go84, co84, eo84, gb84, gl84, cl84, HG84⟩ := Kd.R_form HO151.out (by omega); (first | cases eo84 | (injection eo84 with ea_ en_ ec_; (first | subst ea_ | (injection ea_ with ea_; subst ea_)); subst ec_; clear en_)); have GB84 := Aside0.mk gb84; have GG84 := Aside0.mk HG84; clear gb84 gl84 HG84; (first | simp only [add_plain] at hx152_0 | skip); (first | simp only [add_plain] at hx152_1 | skip); obtain ⟨ce84, hcl84, hM84, hcc84, hfr84⟩ := Kd.R_elem HO151.out z50 ((ji81) : Int) p84 q84; obtain rfl := k50_openM hM84; have hx84_0 : w85.cell? ⟨go84, ((ji81) : Int).toNat * 2, none⟩ = some (.int .i64 ((rd_T50 y149 (ji81)).f0)) := hcc84 0 _ rfl; have hx84_1 : w85.cell? ⟨go84, ((ji81) : Int).toNat * 2 + 1, none⟩ = some (.int .i64 ((rd_T50 y149 (ji81)).f1)) := hcc84 1 _ rfl; have hf84_0 : w85.frozen? ⟨go84, ((ji81) : Int).toNat * 2, none⟩ = false := hfr84 0; have hf84_1 : w85.frozen? ⟨go84, ((ji81) : Int).toNat * 2 + 1, none⟩ = false := hfr84 1; clear hcl84 hcc84 hfr84 hM84; replace p84 := eq_true p84; replace q84 := eq_true q84; have HX87 := Aside0.mk (show Kd.R k50 50 w85 w.heap.size (fun k_ => (w.heap.size ≤ k_)) (.slice (some ⟨go84, 0, none⟩) y149.length co86) y149 from (by (with_reducible repeat (first | apply Kd.R_alloc | apply Kd.R_drewN | apply Kd.R_drew)); exact HO151.out)); obtain ⟨ce87, hcl87, hM87, hcc87, hfr87⟩ := Kd.R_elem HX87.out z50 ((ji81) : Int) (of_decide_eq_true (by first | (with_reducible assumption) | assumption)) (by have h_ : ((ji81) : Int) < ((y149.length : Int) : Int) := of_decide_eq_true (by first | (with_reducible assumption) | assumption); first | exact h_ | (have e_ := (Kd.R_reads' HO151.out).1; omega) | simpa using h_); obtain rfl := k50_openM hM87; have HP87 := Kd.R_seg HX87.out ((ji81) : Int) (of_decide_eq_true (by first | (with_reducible assumption) | assumption)) (by have h_ : ((ji81) : Int) < ((y149.length : Int) : Int) := of_decide_eq_true (by first | (with_reducible assumption) | assumption); first | exact h_ | (have e_ := (Kd.R_reads' HO151.out).1; omega) | simpa using h_) (seg := [.int .i64 (wrap64 (((rd_T50 y149 (ji81)).f1) + a3))]) (j := 1) hcl87 hcc87 (show 2 ≤ 2 from by decide) (x' := (⟨(rd_T50 y149 (ji81)).f0, wrap64 (((rd_T50 y149 (ji81)).f1) + a3)⟩ : S50)) (k50_mkM _ _ _ (⟨(rd_T50 y149 (ji81)).f0, wrap64 (((rd_T50 y149 (ji81)).f1) + a3)⟩ : S50) ) (fun _ hk => hk); have hx87_1 := hcc87 1 _ rfl; (try simp only [show (k50).sz = 2 from rfl, Nat.mul_one, Nat.add_zero] at hx87_1); have hf87_1 := hfr87 1; (try simp only [show (k50).sz = 2 from rfl, Nat.mul_one, Nat.add_zero] at hf87_1); clear hcl87 hcc87 hfr87 hM87) | ((with_reducible refine gate_store (t := 3) (p := 85) rfl ?_); refine store_event (t := 3) (p := 85) (v := ?vo_w88) (w1 := (w85.setCell ⟨go84, ((ji81) : Int).toNat * 2 + 1, none⟩ (.int .i64 (wrap64 (((rd_T50 y149 (ji81)).f1) + a3))))) ?hg ?ho ?hn ?hr ?_; (case ho => rfl); (case hg => rfl); (case hn => rfl); (case hr => first | (go_simp; done) | (go_simp; rfl)); intro w88 hw; have hg : w85.grownBy w88 (some go84) := (by rw [hw]; exact HP87.2); have hp_ : Kd.R k50 50 w88 w.heap.size (fun k_ => (w.heap.size ≤ k_)) (.slice (some ⟨go84, 0, none⟩) y149.length co86) y153 := (by rw [hw, Ny153.out]; exact HP87.1); clear HP87; replace HO_135002 := Aside0.mk (Kd.V_afterv (v := (.slice (some ⟨go84, 0, none⟩) y149.length co86)) (v1 := (.slice (some ⟨go84, 0, none⟩) y149.length co86)) (ok := (fun k_ => ((P1_2_ k_ ∨ P1_3_ k_) ∨ w.heap.size ≤ k_) ∧ k_ ≠ gb133 ∧ k_ ≠ gb134 ∧ k_ ≠ gb135 ∧ k_ ≠ gb136 ∧ k_ ≠ gb146)) (by (with_reducible repeat (first | apply Kd.V_alloc | apply Kd.V_drewN | apply Kd.V_drew)); exact HO_135002.out) hg (.inl rfl)); replace HO_135003 := Aside0.mk (Kd.V_afterv (v := (.slice (some ⟨go84, 0, none⟩) y149.length co86)) (v1 := (.slice (some ⟨go84, 0, none⟩) y149.length co86)) (ok := (fun k_ => ((P1_2_ k_ ∨ P1_3_ k_) ∨ w.heap.size ≤ k_) ∧ k_ ≠ gb133 ∧ k_ ≠ gb134 ∧ k_ ≠ gb135 ∧ k_ ≠ gb136 ∧ k_ ≠ gb146)) (by (with_reducible repeat (first | apply Kd.V_alloc | apply Kd.V_drewN | apply Kd.V_drew)); exact HO_135003.out) hg (.inl rfl)); replace BK133 := Aside0.mk (blk_grown (g := gb133) (o := .cells #[.int .i64 a0_0, .int .i64 a0_1, .int .i64 a0_2, .int .i64 a0_3] 23 (0, 0)) (bo BK133) hg (Kd.R_ne HO151.out BK133.out (by decide))); replace BK134 := Aside0.mk (blk_grown (g := gb134) (o := .cells #[.int .i64 a1_0, .int .i64 a1_1, .slice A1_2 l1_2.length c1_2, .slice A1_3 l1_3.length c1_3] 27 (0, 0)) (bo BK134) hg (Kd.R_ne HO151.out BK134.out (by decide))); replace BK135 := Aside0.mk (blk_grown (g := gb135) (o := .cells #[.int .i64 0, .int .i64 0, .slice none 0 0, .slice none 0 0] 27 (0, 0)) (bo BK135) hg (Kd.R_ne HO151.out BK135.out (by decide))); replace BK136 := Aside0.mk (blk_grown (g := gb136) (o := .cells #[.bool false, .int .i64 0, .int .i64 0, .int .i64 0] 32 (0, 0)) (bo BK136) hg (Kd.R_ne HO151.out BK136.out (by decide))); replace BK146 := Aside0.mk (blk_grown (g := gb146) (o := .cells #[.bool true, .int .i64 0, .int .i64 0, .int .i64 0] 32 (0, 0)) (bo BK146) hg (Kd.R_ne HO151.out BK146.out (by decide))); replace HO151 := Aside0.mk (hp_); replace HB := Aside0.mk ((by rw [hw]; exact below_set (HB.out) GB84.out : Below w.heap.size w w88)); clear hg hw hp_))
            go_meet
            case rel => exact ⟨_, (y153), (l1_3), (true), (0), (.slice A1_3 l1_3.length c1_3), H', ⟨by have := HJ4.out; have := HJ65.out; first | omega | exact Nat.le_refl _⟩, ⟨by (with_reducible repeat (first | apply Kd.R_alloc | apply Kd.R_drewN | apply Kd.R_drew)); exact HO151.out⟩, ⟨by (with_reducible repeat (first | apply Kd.V_alloc | apply Kd.V_drewN | apply Kd.V_drew)); exact Kd.V_mono HO_135002.out (fun _ hk => ⟨hk.1.1, ⟨hk.2, ⟨hk.1.2.1, ⟨hk.1.2.2.1, ⟨hk.1.2.2.2.1, ⟨hk.1.2.2.2.2.1, hk.1.2.2.2.2.2⟩⟩⟩⟩⟩⟩)⟩, ⟨by (with_reducible repeat (first | apply Kd.V_alloc | apply Kd.V_drewN | apply Kd.V_drew)); exact Kd.V_mono HO_135003.out (fun _ hk => ⟨hk.1.1, ⟨hk.2, ⟨hk.1.2.1, ⟨hk.1.2.2.1, ⟨hk.1.2.2.2.1, ⟨hk.1.2.2.2.2.1, hk.1.2.2.2.2.2⟩⟩⟩⟩⟩⟩)⟩, ⟨bo BK133⟩, ⟨bo BK134⟩, ⟨bo BK135⟩, ⟨bo BK136⟩, ⟨bo BK146⟩, ⟨bl HB⟩⟩
           ·rw [if_neg c83] at H
            exact absurd H (by simp)
          ·rw [if_neg c82] at H
           exact absurd H (by simp)
         ·rw [if_neg c80] at H
          exact absurd H (by simp)
        ·replace c79 := Bool.eq_false_iff.mpr c79
         subst c79
         rw [if_neg (show ¬ (false = true) by decide)] at H
         obtain ⟨ji89, hji89⟩ : ∃ j_ : Int, (wrap64 ((t143.length : Int) - 1)) = j_ := ⟨_, rfl⟩
         replace H : (if 0 ≤ (ji89) then (if (ji89) < (t143.length : Int) then (exact_Ask.j2 kj65 ji49 (t143.set ((ji89) : Int).toNat (⟨(rd_T50 t143 (ji89)).f0, wrap64 (((rd_T50 t143 (ji89)).f1) + a3)⟩ : S50)) a0_0 a0_1 a0_2 a0_3 true 0 0 0) else (none)) else (none)) = some (r1, r2, r3, r4, r5, r6, r7, r8) := by first | (rw [hji89] at H; exact H) | (simp only [hji89] at H ⊢; exact H)
         have hji89w : (IntKind.i64.wrap ((t143.length : Int) - 1)) = ji89 := (i64_w _).trans hji89
         by_cases c90 : 0 ≤ (ji89)
         ·rw [if_pos c90] at H
          have c90b0 : decide (0 ≤ (ji89)) = true := decide_eq_true c90
          clear c90
          by_cases c91 : (ji89) < (t143.length : Int)
          ·rw [if_pos c91] at H
           have c91b0 : decide ((ji89) < (t143.length : Int)) = true := decide_eq_true c91
           clear c91
           obtain ⟨y155, hy155⟩ : ∃ y_ : List (S50), y_ = (t143.set ((ji89) : Int).toNat (⟨(rd_T50 t143 (ji89)).f0, wrap64 (((rd_T50 t143 (ji89)).f1) + a3)⟩ : S50)) := ⟨_, rfl⟩
           replace H : (exact_Ask.j2 kj65 ji49 y155 a0_0 a0_1 a0_2 a0_3 true 0 0 0) = some (r1, r2, r3, r4, r5, r6, r7, r8) := by first | (rw [hy155]; with_reducible exact H) | (have H2_ := (Option.bind_some _ _).symm.trans H; rw [hy155]; with_reducible exact H2_) | (have H2_ := (Option.bind_some _ _).symm.trans H; with_reducible exact H2_) | with_reducible exact H | (rw [hy155]; exact H) | exact H
           have Ny155 := Aside0.mk hy155
           clear hy155
           have H' := Aside0.mk H
           clear H
           have p154 : 0 ≤ ((ji89) : Int) := of_decide_eq_true (by first | (with_reducible assumption) | assumption)
           have q154 : (ji89) < (t143.length : Int) := of_decide_eq_true (by first | (with_reducible assumption) | assumption)
           obtain ⟨ad154, e154, hx154_0, hx154_1⟩ := at_T50 (Kd.R_reads' HO_10.out).2.2 (ji89) p154 q154
           cases e154
           replace p154 := eq_true p154
           replace q154 := eq_true q154
           have p92 : 0 ≤ ((ji89) : Int) := of_decide_eq_true (by first | (with_reducible assumption) | assumption)
           have q92 : ((ji89) : Int) < ((t143.length : Int) : Int) := of_decide_eq_true (by first | (with_reducible assumption) | assumption)
           obtain ⟨go92, co92, eo92, gb92, gl92, cl92, HG92⟩ := Kd.R_form HO_10.out (by omega)
           (first | cases eo92 | (injection eo92 with ea_ en_ ec_; (first | subst ea_ | (injection ea_ with ea_; subst ea_)); subst ec_; clear en_))
           have GB92 := Aside0.mk gb92
           have GG92 := Aside0.mk HG92
           clear gb92 gl92 HG92
           (first | simp only [add_plain] at hx154_0 | skip)
           (first | simp only [add_plain] at hx154_1 | skip)
           obtain ⟨ce92, hcl92, hM92, hcc92, hfr92⟩ := Kd.R_elem HO_10.out z50 ((ji89) : Int) p92 q92
           obtain rfl := k50_openM hM92
           have hx92_0 : wc.cell? ⟨go92, ((ji89) : Int).toNat * 2, none⟩ = some (.int .i64 ((rd_T50 t143 (ji89)).f0)) := hcc92 0 _ rfl
           have hx92_1 : wc.cell? ⟨go92, ((ji89) : Int).toNat * 2 + 1, none⟩ = some (.int .i64 ((rd_T50 t143 (ji89)).f1)) := hcc92 1 _ rfl
           have hf92_0 : wc.frozen? ⟨go92, ((ji89) : Int).toNat * 2, none⟩ = false := hfr92 0
           have hf92_1 : wc.frozen? ⟨go92, ((ji89) : Int).toNat * 2 + 1, none⟩ = false := hfr92 1
           clear hcl92 hcc92 hfr92 hM92
           replace p92 := eq_true p92
           replace q92 := eq_true q92
           have HX93 := Aside0.mk (show Kd.R k50 50 wc w.heap.size (fun k_ => (w.heap.size ≤ k_)) (.slice (some ⟨go92, 0, none⟩) t143.length co68) t143 from (by (with_reducible repeat (first | apply Kd.R_alloc | apply Kd.R_drewN | apply Kd.R_drew)); exact HO_10.out))
           obtain ⟨ce93, hcl93, hM93, hcc93, hfr93⟩ := Kd.R_elem HX93.out z50 ((ji89) : Int) (of_decide_eq_true (by first | (with_reducible assumption) | assumption)) (by have h_ : ((ji89) : Int) < ((t143.length : Int) : Int) := of_decide_eq_true (by first | (with_reducible assumption) | assumption); first | exact h_ | (have e_ := (Kd.R_reads' HO_10.out).1; omega) | simpa using h_)
           obtain rfl := k50_openM hM93
           have HP93 := Kd.R_seg HX93.out ((ji89) : Int) (of_decide_eq_true (by first | (with_reducible assumption) | assumption)) (by have h_ : ((ji89) : Int) < ((t143.length : Int) : Int) := of_decide_eq_true (by first | (with_reducible assumption) | assumption); first | exact h_ | (have e_ := (Kd.R_reads' HO_10.out).1; omega) | simpa using h_) (seg := [.int .i64 (wrap64 (((rd_T50 t143 (ji89)).f1) + a3))]) (j := 1) hcl93 hcc93 (show 2 ≤ 2 from by decide) (x' := (⟨(rd_T50 t143 (ji89)).f0, wrap64 (((rd_T50 t143 (ji89)).f1) + a3)⟩ : S50)) (k50_mkM _ _ _ (⟨(rd_T50 t143 (ji89)).f0, wrap64 (((rd_T50 t143 (ji89)).f1) + a3)⟩ : S50) ) (fun _ hk => hk)
           have hx93_1 := hcc93 1 _ rfl
           (try simp only [show (k50).sz = 2 from rfl, Nat.mul_one, Nat.add_zero] at hx93_1)
           have hf93_1 := hfr93 1
           (try simp only [show (k50).sz = 2 from rfl, Nat.mul_one, Nat.add_zero] at hf93_1)
           clear hcl93 hcc93 hfr93 hM93
           go_wp2_with (first | ((with_reducible refine gate_store (t := 3) (p := 85) rfl ?_); refine store_event (t := 3) (p := 85) (v := ?vo_w94) (w1 := (wc.setCell ⟨go92, ((ji89) : Int).toNat * 2 + 1, none⟩ (.int .i64 (wrap64 (((rd_T50 t143 (ji89)).f1) + a3))))) ?hg ?ho ?hn ?hr ?_; (case ho => rfl); (case hg => rfl); (case hn => rfl); (case hr => first | (go_simp; done) | (go_simp; rfl)); intro w94 hw; have hg : wc.grownBy w94 (some go92) := (by rw [hw]; exact HP93.2); have hp_ : Kd.R k50 50 w94 w.heap.size (fun k_ => (w.heap.size ≤ k_)) (.slice (some ⟨go92, 0, none⟩) t143.length co68) y155 := (by rw [hw, Ny155.out]; exact HP93.1); clear HP93; have n0_ := Aside0.mk (hp_); have n1_ := Aside0.mk (Kd.V_afterv (v := (.slice (some ⟨go92, 0, none⟩) t143.length co68)) (v1 := (.slice (some ⟨go92, 0, none⟩) t143.length co68)) (ok := (fun k_ => ((P1_2_ k_ ∨ P1_3_ k_) ∨ w.heap.size ≤ k_) ∧ k_ ≠ gb133 ∧ k_ ≠ gb134 ∧ k_ ≠ gb135 ∧ k_ ≠ gb136 ∧ k_ ≠ gb146)) (by (with_reducible repeat (first | apply Kd.V_alloc | apply Kd.V_drewN | apply Kd.V_drew)); exact Kd.V_mono HO_135002.out (fun _ hk => ⟨⟨hk.1, ⟨hk.2.2.1, ⟨hk.2.2.2.1, ⟨hk.2.2.2.2.1, ⟨hk.2.2.2.2.2.1, hk.2.2.2.2.2.2⟩⟩⟩⟩⟩, hk.2.1⟩)) hg (.inl rfl)); have n2_ := Aside0.mk (Kd.V_afterv (v := (.slice (some ⟨go92, 0, none⟩) t143.length co68)) (v1 := (.slice (some ⟨go92, 0, none⟩) t143.length co68)) (ok := (fun k_ => ((P1_2_ k_ ∨ P1_3_ k_) ∨ w.heap.size ≤ k_) ∧ k_ ≠ gb133 ∧ k_ ≠ gb134 ∧ k_ ≠ gb135 ∧ k_ ≠ gb136 ∧ k_ ≠ gb146)) (by (with_reducible repeat (first | apply Kd.V_alloc | apply Kd.V_drewN | apply Kd.V_drew)); exact Kd.V_mono HO_135003.out (fun _ hk => ⟨⟨hk.1, ⟨hk.2.2.1, ⟨hk.2.2.2.1, ⟨hk.2.2.2.2.1, ⟨hk.2.2.2.2.2.1, hk.2.2.2.2.2.2⟩⟩⟩⟩⟩, hk.2.1⟩)) hg (.inl rfl)); have n3_ := Aside0.mk (blk_grown (g := gb133) (o := .cells #[.int .i64 a0_0, .int .i64 a0_1, .int .i64 a0_2, .int .i64 a0_3] 23 (0, 0)) (bo BK133) hg (Kd.R_ne HO_10.out BK133.out (by decide))); have n4_ := Aside0.mk (blk_grown (g := gb134) (o := .cells #[.int .i64 a1_0, .int .i64 a1_1, .slice A1_2 l1_2.length c1_2, .slice A1_3 l1_3.length c1_3] 27 (0, 0)) (bo BK134) hg (Kd.R_ne HO_10.out BK134.out (by decide))); have n5_ := Aside0.mk (blk_grown (g := gb135) (o := .cells #[.int .i64 0, .int .i64 0, .slice none 0 0, .slice none 0 0] 27 (0, 0)) (bo BK135) hg (Kd.R_ne HO_10.out BK135.out (by decide))); have n6_ := Aside0.mk (blk_grown (g := gb136) (o := .cells #[.bool false, .int .i64 0, .int .i64 0, .int .i64 0] 32 (0, 0)) (bo BK136) hg (Kd.R_ne HO_10.out BK136.out (by decide))); have n7_ := Aside0.mk (blk_grown (g := gb146) (o := .cells #[.bool true, .int .i64 0, .int .i64 0, .int .i64 0] 32 (0, 0)) (bo BK146) hg (Kd.R_ne HO_10.out BK146.out (by decide))); have n8_ := Aside0.mk ((by rw [hw]; exact below_set (HB.out) GB92.out : Below w.heap.size w w94)); clear HO_10; clear HO_135002; clear HO_135003; clear BK133; clear BK134; clear BK135; clear BK136; clear BK146; clear HB; have HO_10 := n0_; have HO_135002 := n1_; have HO_135003 := n2_; have BK133 := n3_; have BK134 := n4_; have BK135 := n5_; have BK136 := n6_; have BK146 := n7_; have HB := n8_; clear n0_ n1_ n2_ n3_ n4_ n5_ n6_ n7_ n8_; clear hg hw hp_))
           go_meet
           case rel => exact ⟨_, (y155), (l1_3), (true), (0), (.slice A1_3 l1_3.length c1_3), H', ⟨by have := HJ4.out; have := HJ65.out; first | omega | exact Nat.le_refl _⟩, ⟨by (with_reducible repeat (first | apply Kd.R_alloc | apply Kd.R_drewN | apply Kd.R_drew)); exact HO_10.out⟩, ⟨by (with_reducible repeat (first | apply Kd.V_alloc | apply Kd.V_drewN | apply Kd.V_drew)); exact Kd.V_mono HO_135002.out (fun _ hk => ⟨hk.1.1, ⟨hk.2, ⟨hk.1.2.1, ⟨hk.1.2.2.1, ⟨hk.1.2.2.2.1, ⟨hk.1.2.2.2.2.1, hk.1.2.2.2.2.2⟩⟩⟩⟩⟩⟩)⟩, ⟨by (with_reducible repeat (first | apply Kd.V_alloc | apply Kd.V_drewN | apply Kd.V_drew)); exact Kd.V_mono HO_135003.out (fun _ hk => ⟨hk.1.1, ⟨hk.2, ⟨hk.1.2.1, ⟨hk.1.2.2.1, ⟨hk.1.2.2.2.1, ⟨hk.1.2.2.2.2.1, hk.1.2.2.2.2.2⟩⟩⟩⟩⟩⟩)⟩, ⟨bo BK133⟩, ⟨bo BK134⟩, ⟨bo BK135⟩, ⟨bo BK136⟩, ⟨bo BK146⟩, ⟨bl HB⟩⟩
          ·rw [if_neg c91] at H
           exact absurd H (by simp)
         ·rw [if_neg c90] at H
          exact absurd H (by simp)
     ·rw [if_neg c65] at H
      have c65b0 : decide ((wrap64 (t147 + a3)) ≤ a0_1) = false := decide_eq_false c65
      clear c65
      (first | rw [c65b0] | (simp only [i64_w, i32_w]; rw [c65b0]) | skip)
      by_cases c95 : a3 > a0_1
      ·rw [if_pos c95] at H
       have c95b0 : decide (a0_1 < a3) = true := decide_eq_true c95
       clear c95
       have H' := Aside0.mk H
       clear H
       try go_wp2
       replace HO_135002 := Aside0.mk (Kd.V_drew HO_135002.out)
       replace HO_135003 := Aside0.mk (Kd.V_drew HO_135003.out)
       replace HO142 := Aside0.mk (Kd.V_drew HO142.out)
       replace HO145 := Aside0.mk (Kd.R_drew HO145.out)
       replace BK133 := Aside0.mk (blk_drew BK133.out)
       replace BK134 := Aside0.mk (blk_drew BK134.out)
       replace BK135 := Aside0.mk (blk_drew BK135.out)
       replace BK136 := Aside0.mk (blk_drew BK136.out)
       replace BK146 := Aside0.mk (blk_drew BK146.out)
       replace HB := Aside0.mk (below_drew1 HB.out)
       obtain ⟨Ao97, co97, eo97⟩ := Kd.R_slice HO145.out
       (first | subst eo97 | (injection eo97 with f1_ f2_ f3_; have f4_ := f1_.symm; have f5_ := f3_.symm; clear f1_ f2_ f3_; subst f4_; subst f5_))
       refine start_ (n := 8) (S := fun w' => w'.cell? ⟨gb133, 0, none⟩ = some (.int .i64 a0_0) ∧ w'.cell? ⟨gb133, 1, none⟩ = some (.int .i64 a0_1) ∧ w'.cell? ⟨gb133, 2, none⟩ = some (.int .i64 a0_2) ∧ w'.cell? ⟨gb133, 3, none⟩ = some (.int .i64 a0_3)) (ds := []) #[false, false, false, false, false, false, false, false] (by kernel_rfl) rfl rfl ⟨(blk_cell BK133.out 0).trans rfl, (blk_cell BK133.out 1).trans rfl, (blk_cell BK133.out 2).trans rfl, (blk_cell BK133.out 3).trans rfl⟩ (fun hHeld => ?_); refine with_tabW exact_Ask.tab7 exact_Ask.bits7 (fun HT_ HW_ => ?_)
       generalize w63.drew = w96 at HO_135002 HO_135003 HO142 HO145 BK133 BK134 BK135 BK136 BK146 HB hHeld ⊢
       refine pureA 0 48 HT_ ?_
       refine pureA 2 50 HT_ ?_
       refine pureA 4 52 HT_ ?_
       refine takeA 5 53 HT_ HW_ hHeld ?_
       refine one_ (i := 1) (N := some 49) #[true, true, true, false, true, true, false, false] rfl rfl (one_of HT_.out (by kernel_rfl)) (by decide) (fun K hK => ?_)
       refine goes_ Try.func25 (by kernel_rfl) rfl #[.slice Ao97 t143.length co97] (by rfl) rfl rfl (by (try simp only [List.map_toArray, List.map_cons, List.map_nil]); first | done | rfl | (simp only [List.length_drop, List.length_take]; rfl)) ?_
       with_reducible refine (exact_count.calls kj4 _ _ t143 t147 _ ?side1 ?side2 A64.out).mono ?_
       (case side1 => repeat (first | exact (Kd.R_reads' HO145.out).2.2 | (with_reducible refine Kd.C_alloc ?_ _) | (with_reducible refine Kd.C_drewN ?_ _) | (with_reducible refine Kd.C_drew ?_)))
       (case side2 => exact (Kd.R_reads' HO145.out).2.1)
       rintro e w98 ⟨rfl, hb⟩
       refine ⟨_, rfl, ?_⟩
       replace HO_135002 := vb HO_135002 hb
       replace HO_135003 := vb HO_135003 hb
       replace HO142 := vb HO142 hb
       replace HO145 := Aside0.mk (Kd.R_below (by (with_reducible repeat (first | apply Kd.R_alloc | apply Kd.R_drewN | apply Kd.R_drew)); exact HO145.out) hb)
       replace BK133 := Aside0.mk (blk_below (bo BK133) hb)
       replace BK134 := Aside0.mk (blk_below (bo BK134) hb)
       replace BK135 := Aside0.mk (blk_below (bo BK135) hb)
       replace BK136 := Aside0.mk (blk_below (bo BK136) hb)
       replace BK146 := Aside0.mk (blk_below (bo BK146) hb)
       replace HB := Aside0.mk (below_step (bl HB) hb)
       (try clear hb)
       (try clear hb2)
       (try clear hk)
       (try clear hi)
       refine hK.out _ _ ⟨(blk_cell BK133.out 0).trans rfl, (blk_cell BK133.out 1).trans rfl, (blk_cell BK133.out 2).trans rfl, (blk_cell BK133.out 3).trans rfl⟩ (fun hHeld => ?_)
       clear hK K
       refine norm_ (a' := ?_) ?_ ?_
       rotate_left
       ·show Act.put _ (some 49) _ = _
        simp only [Act.put, List.setIfInBounds_toArray, List.set_cons_zero, List.set_cons_succ, i64_w, i32_w]
        rfl
       refine pureA 3 51 HT_ ?_
       refine pureA 6 54 HT_ ?_
       refine pureA 7 47 HT_ ?_
       refine done_ (done_of HT_.out (by kernel_rfl)) ?_
       have hnb99 := NB133_134.out
       have hnc99 := NB134_133.out
       have hnb100 := NB133_135.out
       have hnc100 := NB135_133.out
       have hnb101 := NB133_136.out
       have hnc101 := NB136_133.out
       have hnb102 := NB133_146.out
       have hnc102 := NB146_133.out
       obtain ⟨hcz103_0, hcz103_1, hcz103_2, hcz103_3⟩ := ce4 BK133
       obtain ⟨hfz103_0, hfz103_1, hfz103_2, hfz103_3⟩ := fr4 BK133
       have hnb104 := NB146_134.out
       have hnc104 := NB134_146.out
       have hnb105 := NB146_135.out
       have hnc105 := NB135_146.out
       have hnb106 := NB146_136.out
       have hnc106 := NB136_146.out
       obtain ⟨hcz107_0, hcz107_1, hcz107_2, hcz107_3⟩ := ce4 BK146
       obtain ⟨hfz107_0, hfz107_1, hfz107_2, hfz107_3⟩ := fr4 BK146
       try go_wp2
       go_meet
       case rel => exact ⟨_, (t143), (l1_3), (false), (2199023255552), (.slice A1_3 l1_3.length c1_3), H', ⟨by have := HJ4.out; first | omega | exact Nat.le_refl _⟩, ⟨by (with_reducible repeat (first | apply Kd.R_alloc | apply Kd.R_drewN | apply Kd.R_drew)); exact Kd.R_mono (Kd.R_far (p := ⟨gb146, 2, none⟩) (Kd.R_types HO145.out BK146.out (by decide)) (fun _ hk => hk.2) (.int .i64 2199023255552)) (fun _ hk => hk.1.1)⟩, ⟨by (with_reducible repeat (first | apply Kd.V_alloc | apply Kd.V_drewN | apply Kd.V_drew)); exact Kd.V_mono (Kd.V_far (p := ⟨gb146, 2, none⟩) (Kd.V_mono HO_135002.out (fun k_ hk => (⟨hk, hk.2⟩ : _ ∧ k_ ≠ gb146))) (fun _ hk => hk.2) (.int .i64 2199023255552)) (fun _ hk => ⟨hk.1.1.1.1, ⟨hk.1.1.2, ⟨hk.1.1.1.2.1, ⟨hk.1.1.1.2.2.1, ⟨hk.1.1.1.2.2.2.1, ⟨hk.1.1.1.2.2.2.2, hk.1.2⟩⟩⟩⟩⟩⟩)⟩, ⟨by (with_reducible repeat (first | apply Kd.V_alloc | apply Kd.V_drewN | apply Kd.V_drew)); exact Kd.V_mono (Kd.V_far (p := ⟨gb146, 2, none⟩) (Kd.V_mono HO_135003.out (fun k_ hk => (⟨hk, hk.2⟩ : _ ∧ k_ ≠ gb146))) (fun _ hk => hk.2) (.int .i64 2199023255552)) (fun _ hk => ⟨hk.1.1.1.1, ⟨hk.1.1.2, ⟨hk.1.1.1.2.1, ⟨hk.1.1.1.2.2.1, ⟨hk.1.1.1.2.2.2.1, ⟨hk.1.1.1.2.2.2.2, hk.1.2⟩⟩⟩⟩⟩⟩)⟩, ⟨by (with_reducible repeat (first | refine blk_drewN ?_ _ | refine blk_drew ?_ | refine blk_alloc ?_ _)); refine blk_far ?_ NB133_146.out _; (with_reducible repeat (first | refine blk_drewN ?_ _ | refine blk_drew ?_ | refine blk_alloc ?_ _)); exact BK133.out⟩, ⟨by (with_reducible repeat (first | refine blk_drewN ?_ _ | refine blk_drew ?_ | refine blk_alloc ?_ _)); refine blk_far ?_ NB134_146.out _; (with_reducible repeat (first | refine blk_drewN ?_ _ | refine blk_drew ?_ | refine blk_alloc ?_ _)); exact BK134.out⟩, ⟨by (with_reducible repeat (first | refine blk_drewN ?_ _ | refine blk_drew ?_ | refine blk_alloc ?_ _)); refine blk_far ?_ NB135_146.out _; (with_reducible repeat (first | refine blk_drewN ?_ _ | refine blk_drew ?_ | refine blk_alloc ?_ _)); exact BK135.out⟩, ⟨by (with_reducible repeat (first | refine blk_drewN ?_ _ | refine blk_drew ?_ | refine blk_alloc ?_ _)); refine blk_far ?_ NB136_146.out _; (with_reducible repeat (first | refine blk_drewN ?_ _ | refine blk_drew ?_ | refine blk_alloc ?_ _)); exact BK136.out⟩, ⟨by (with_reducible repeat (first | refine blk_drewN ?_ _ | refine blk_drew ?_ | refine blk_alloc ?_ _)); refine blk_put (cs := #[.bool false, .int .i64 0, .int .i64 0, .int .i64 0]) ?_ 2 _ rfl; (with_reducible repeat (first | refine blk_drewN ?_ _ | refine blk_drew ?_ | refine blk_alloc ?_ _)); exact BK146.out⟩, ⟨bl HB⟩⟩
      ·rw [if_neg c95] at H
       have c95b0 : decide (a0_1 < a3) = false := decide_eq_false c95
       clear c95
       replace H := Option.bind_eq_some_iff.mp H
       obtain ⟨t156, A1080, H⟩ := H
       have A108 := Aside0.mk A1080
       clear A1080
       have H' := Aside0.mk H
       clear H
       try go_wp2
       replace HO_135002 := Aside0.mk (Kd.V_drew HO_135002.out)
       replace HO_135003 := Aside0.mk (Kd.V_drew HO_135003.out)
       replace HO142 := Aside0.mk (Kd.V_drew HO142.out)
       replace HO145 := Aside0.mk (Kd.R_drew HO145.out)
       replace BK133 := Aside0.mk (blk_drew BK133.out)
       replace BK134 := Aside0.mk (blk_drew BK134.out)
       replace BK135 := Aside0.mk (blk_drew BK135.out)
       replace BK136 := Aside0.mk (blk_drew BK136.out)
       replace BK146 := Aside0.mk (blk_drew BK146.out)
       replace HB := Aside0.mk (below_drew1 HB.out)
       obtain ⟨Ao110, co110, eo110⟩ := Kd.R_slice HO145.out
       (first | subst eo110 | (injection eo110 with f1_ f2_ f3_; have f4_ := f1_.symm; have f5_ := f3_.symm; clear f1_ f2_ f3_; subst f4_; subst f5_))
       refine start_ (n := 8) (S := fun w' => w'.cell? ⟨gb133, 0, none⟩ = some (.int .i64 a0_0) ∧ w'.cell? ⟨gb133, 1, none⟩ = some (.int .i64 a0_1) ∧ w'.cell? ⟨gb133, 2, none⟩ = some (.int .i64 a0_2) ∧ w'.cell? ⟨gb133, 3, none⟩ = some (.int .i64 a0_3)) (ds := []) #[false, false, false, false, false, false, false, false] (by kernel_rfl) rfl rfl ⟨(blk_cell BK133.out 0).trans rfl, (blk_cell BK133.out 1).trans rfl, (blk_cell BK133.out 2).trans rfl, (blk_cell BK133.out 3).trans rfl⟩ (fun hHeld => ?_); refine with_tabW exact_Ask.tab7 exact_Ask.bits7 (fun HT_ HW_ => ?_)
       generalize w63.drew = w109 at HO_135002 HO_135003 HO142 HO145 BK133 BK134 BK135 BK136 BK146 HB hHeld ⊢
       refine pureA 0 48 HT_ ?_
       refine pureA 2 50 HT_ ?_
       refine pureA 4 52 HT_ ?_
       refine takeA 5 53 HT_ HW_ hHeld ?_
       refine one_ (i := 1) (N := some 49) #[true, true, true, false, true, true, false, false] rfl rfl (one_of HT_.out (by kernel_rfl)) (by decide) (fun K hK => ?_)
       refine goes_ Try.func25 (by kernel_rfl) rfl #[.slice Ao110 t143.length co110] (by rfl) rfl rfl (by (try simp only [List.map_toArray, List.map_cons, List.map_nil]); first | done | rfl | (simp only [List.length_drop, List.length_take]; rfl)) ?_
       with_reducible refine (exact_count.calls kj4 _ _ t143 t147 _ ?side1 ?side2 A64.out).mono ?_
       (case side1 => repeat (first | exact (Kd.R_reads' HO145.out).2.2 | (with_reducible refine Kd.C_alloc ?_ _) | (with_reducible refine Kd.C_drewN ?_ _) | (with_reducible refine Kd.C_drew ?_)))
       (case side2 => exact (Kd.R_reads' HO145.out).2.1)
       rintro e w111 ⟨rfl, hb⟩
       refine ⟨_, rfl, ?_⟩
       replace HO_135002 := vb HO_135002 hb
       replace HO_135003 := vb HO_135003 hb
       replace HO142 := vb HO142 hb
       replace HO145 := Aside0.mk (Kd.R_below (by (with_reducible repeat (first | apply Kd.R_alloc | apply Kd.R_drewN | apply Kd.R_drew)); exact HO145.out) hb)
       replace BK133 := Aside0.mk (blk_below (bo BK133) hb)
       replace BK134 := Aside0.mk (blk_below (bo BK134) hb)
       replace BK135 := Aside0.mk (blk_below (bo BK135) hb)
       replace BK136 := Aside0.mk (blk_below (bo BK136) hb)
       replace BK146 := Aside0.mk (blk_below (bo BK146) hb)
       replace HB := Aside0.mk (below_step (bl HB) hb)
       (try clear hb)
       (try clear hb2)
       (try clear hk)
       (try clear hi)
       refine hK.out _ _ ⟨(blk_cell BK133.out 0).trans rfl, (blk_cell BK133.out 1).trans rfl, (blk_cell BK133.out 2).trans rfl, (blk_cell BK133.out 3).trans rfl⟩ (fun hHeld => ?_)
       clear hK K
       refine norm_ (a' := ?_) ?_ ?_
       rotate_left
       ·show Act.put _ (some 49) _ = _
        simp only [Act.put, List.setIfInBounds_toArray, List.set_cons_zero, List.set_cons_succ, i64_w, i32_w]
        rfl
       refine pureA 3 51 HT_ ?_
       refine pureA 6 54 HT_ ?_
       refine pureA 7 47 HT_ ?_
       refine done_ (done_of HT_.out (by kernel_rfl)) ?_
       have hnb112 := NB133_134.out
       have hnc112 := NB134_133.out
       have hnb113 := NB133_135.out
       have hnc113 := NB135_133.out
       have hnb114 := NB133_136.out
       have hnc114 := NB136_133.out
       have hnb115 := NB133_146.out
       have hnc115 := NB146_133.out
       obtain ⟨hcz116_0, hcz116_1, hcz116_2, hcz116_3⟩ := ce4 BK133
       obtain ⟨hfz116_0, hfz116_1, hfz116_2, hfz116_3⟩ := fr4 BK133
       try go_wp2_with (first | ((with_reducible refine gate_callee (f := 26) rfl ?_); refine goesL_ (some 45) rfl rfl Try.func26 (by kernel_rfl) rfl #[.agg #[.int .i64 a0_0, .int .i64 a0_1, .int .i64 a0_2, .int .i64 a0_3], .slice Ao110 t143.length co110, .int .i64 ji49, .int .i64 (wrap64 (a0_1 - a3))] rfl (by (try simp only [List.map_toArray, List.map_cons, List.map_nil]); first | done | (simp only [hji49]; rfl) | rfl | (simp only [List.length_drop, List.length_take]; rfl)) ?_; (with_reducible refine (exact_wait.calls kj4 a0_0 a0_1 a0_2 a0_3 _ _ t143 ji49 (wrap64 (a0_1 - a3)) t156 _ ?side1 ?side2 A108.out).mono ?_); (case side1 => repeat (first | exact (Kd.R_reads' HO145.out).2.2 | (with_reducible refine Kd.C_alloc ?_ _) | (with_reducible refine Kd.C_drewN ?_ _) | (with_reducible refine Kd.C_drew ?_))); (case side2 => exact (Kd.R_reads' HO145.out).2.1); rintro e w117 ⟨rfl, hb⟩; refine ⟨_, rfl, ?_⟩; replace HO_135002 := vb HO_135002 hb; replace HO_135003 := vb HO_135003 hb; replace HO142 := vb HO142 hb; replace HO145 := Aside0.mk (Kd.R_below (by (with_reducible repeat (first | apply Kd.R_alloc | apply Kd.R_drewN | apply Kd.R_drew)); exact HO145.out) hb); replace BK133 := Aside0.mk (blk_below (bo BK133) hb); replace BK134 := Aside0.mk (blk_below (bo BK134) hb); replace BK135 := Aside0.mk (blk_below (bo BK135) hb); replace BK136 := Aside0.mk (blk_below (bo BK136) hb); replace BK146 := Aside0.mk (blk_below (bo BK146) hb); replace HB := Aside0.mk (below_step (bl HB) hb); (try clear hb); (try clear hb2); (try clear hk); (try clear hi); have hnb118 := NB146_134.out; have hnc118 := NB134_146.out; have hnb119 := NB146_135.out; have hnc119 := NB135_146.out; have hnb120 := NB146_136.out; have hnc120 := NB136_146.out; obtain ⟨hcz121_0, hcz121_1, hcz121_2, hcz121_3⟩ := ce4 BK146; obtain ⟨hfz121_0, hfz121_1, hfz121_2, hfz121_3⟩ := fr4 BK146))
       go_meet
       case rel => exact ⟨_, (t143), (l1_3), (false), (t156), (.slice A1_3 l1_3.length c1_3), H', ⟨by have := HJ4.out; first | omega | exact Nat.le_refl _⟩, ⟨by (with_reducible repeat (first | apply Kd.R_alloc | apply Kd.R_drewN | apply Kd.R_drew)); exact Kd.R_mono (Kd.R_far (p := ⟨gb146, 2, none⟩) (Kd.R_types HO145.out BK146.out (by decide)) (fun _ hk => hk.2) (.int .i64 t156)) (fun _ hk => hk.1.1)⟩, ⟨by (with_reducible repeat (first | apply Kd.V_alloc | apply Kd.V_drewN | apply Kd.V_drew)); exact Kd.V_mono (Kd.V_far (p := ⟨gb146, 2, none⟩) (Kd.V_mono HO_135002.out (fun k_ hk => (⟨hk, hk.2⟩ : _ ∧ k_ ≠ gb146))) (fun _ hk => hk.2) (.int .i64 t156)) (fun _ hk => ⟨hk.1.1.1.1, ⟨hk.1.1.2, ⟨hk.1.1.1.2.1, ⟨hk.1.1.1.2.2.1, ⟨hk.1.1.1.2.2.2.1, ⟨hk.1.1.1.2.2.2.2, hk.1.2⟩⟩⟩⟩⟩⟩)⟩, ⟨by (with_reducible repeat (first | apply Kd.V_alloc | apply Kd.V_drewN | apply Kd.V_drew)); exact Kd.V_mono (Kd.V_far (p := ⟨gb146, 2, none⟩) (Kd.V_mono HO_135003.out (fun k_ hk => (⟨hk, hk.2⟩ : _ ∧ k_ ≠ gb146))) (fun _ hk => hk.2) (.int .i64 t156)) (fun _ hk => ⟨hk.1.1.1.1, ⟨hk.1.1.2, ⟨hk.1.1.1.2.1, ⟨hk.1.1.1.2.2.1, ⟨hk.1.1.1.2.2.2.1, ⟨hk.1.1.1.2.2.2.2, hk.1.2⟩⟩⟩⟩⟩⟩)⟩, ⟨by (with_reducible repeat (first | refine blk_drewN ?_ _ | refine blk_drew ?_ | refine blk_alloc ?_ _)); refine blk_far ?_ NB133_146.out _; (with_reducible repeat (first | refine blk_drewN ?_ _ | refine blk_drew ?_ | refine blk_alloc ?_ _)); exact BK133.out⟩, ⟨by (with_reducible repeat (first | refine blk_drewN ?_ _ | refine blk_drew ?_ | refine blk_alloc ?_ _)); refine blk_far ?_ NB134_146.out _; (with_reducible repeat (first | refine blk_drewN ?_ _ | refine blk_drew ?_ | refine blk_alloc ?_ _)); exact BK134.out⟩, ⟨by (with_reducible repeat (first | refine blk_drewN ?_ _ | refine blk_drew ?_ | refine blk_alloc ?_ _)); refine blk_far ?_ NB135_146.out _; (with_reducible repeat (first | refine blk_drewN ?_ _ | refine blk_drew ?_ | refine blk_alloc ?_ _)); exact BK135.out⟩, ⟨by (with_reducible repeat (first | refine blk_drewN ?_ _ | refine blk_drew ?_ | refine blk_alloc ?_ _)); refine blk_far ?_ NB136_146.out _; (with_reducible repeat (first | refine blk_drewN ?_ _ | refine blk_drew ?_ | refine blk_alloc ?_ _)); exact BK136.out⟩, ⟨by (with_reducible repeat (first | refine blk_drewN ?_ _ | refine blk_drew ?_ | refine blk_alloc ?_ _)); refine blk_put (cs := #[.bool false, .int .i64 0, .int .i64 0, .int .i64 0]) ?_ 2 _ rfl; (with_reducible repeat (first | refine blk_drewN ?_ _ | refine blk_drew ?_ | refine blk_alloc ?_ _)); exact BK146.out⟩, ⟨bl HB⟩⟩
    case rest =>
     clear HC52
     try clear c11; try clear c39; try clear c65; try clear c65b0; try clear c75; try clear c75b0; try clear c75b1; try clear c75b2; try clear c77; try clear c77b0; try clear c78; try clear c78b0; try clear c79; try clear c80; try clear c82; try clear c82b0; try clear c83; try clear c83b0; try clear p84; try clear q84; try clear c90; try clear c90b0; try clear c91; try clear c91b0; try clear p92; try clear q92; try clear c95; try clear c95b0; try clear hcz103_0; try clear hcz103_1; try clear hcz103_2; try clear hcz103_3; try clear hcz107_0; try clear hcz107_1; try clear hcz107_2; try clear hcz107_3; try clear hcz116_0; try clear hcz116_1; try clear hcz116_2; try clear hcz116_3; try clear hcz121_0; try clear hcz121_1; try clear hcz121_2; try clear hcz121_3; try clear hcz18_0; try clear hcz18_1; try clear hcz18_2; try clear hcz18_3; try clear hcz21_0; try clear hcz21_1; try clear hcz21_2; try clear hcz21_3; try clear hcz26_0; try clear hcz26_1; try clear hcz26_2; try clear hcz26_3; try clear hcz29_0; try clear hcz29_1; try clear hcz29_2; try clear hcz29_3; try clear hcz34_0; try clear hcz34_1; try clear hcz34_2; try clear hcz34_3; try clear hcz37_0; try clear hcz37_1; try clear hcz37_2; try clear hcz37_3; try clear hcz43_0; try clear hcz43_1; try clear hcz43_2; try clear hcz43_3; try clear hcz46_0; try clear hcz46_1; try clear hcz46_2; try clear hcz46_3; try clear hcz48_0; try clear hcz48_1; try clear hcz48_2; try clear hcz48_3; try clear hcz56_0; try clear hcz56_1; try clear hcz56_2; try clear hcz56_3; try clear hcz59_0; try clear hcz59_1; try clear hcz59_2; try clear hcz59_3; try clear hcz74_0; try clear hcz74_1; try clear hcz74_2; try clear hcz74_3; try clear hfz103_0; try clear hfz103_1; try clear hfz103_2; try clear hfz103_3; try clear hfz107_0; try clear hfz107_1; try clear hfz107_2; try clear hfz107_3; try clear hfz116_0; try clear hfz116_1; try clear hfz116_2; try clear hfz116_3; try clear hfz121_0; try clear hfz121_1; try clear hfz121_2; try clear hfz121_3; try clear hfz18_0; try clear hfz18_1; try clear hfz18_2; try clear hfz18_3; try clear hfz21_0; try clear hfz21_1; try clear hfz21_2; try clear hfz21_3; try clear hfz26_0; try clear hfz26_1; try clear hfz26_2; try clear hfz26_3; try clear hfz29_0; try clear hfz29_1; try clear hfz29_2; try clear hfz29_3; try clear hfz34_0; try clear hfz34_1; try clear hfz34_2; try clear hfz34_3; try clear hfz37_0; try clear hfz37_1; try clear hfz37_2; try clear hfz37_3; try clear hfz43_0; try clear hfz43_1; try clear hfz43_2; try clear hfz43_3; try clear hfz46_0; try clear hfz46_1; try clear hfz46_2; try clear hfz46_3; try clear hfz48_0; try clear hfz48_1; try clear hfz48_2; try clear hfz48_3; try clear hfz56_0; try clear hfz56_1; try clear hfz56_2; try clear hfz56_3; try clear hfz59_0; try clear hfz59_1; try clear hfz59_2; try clear hfz59_3; try clear hfz74_0; try clear hfz74_1; try clear hfz74_2; try clear hfz74_3; try clear hx148_0; try clear hx148_1; try clear hx152_0; try clear hx152_1; try clear hx154_0; try clear hx154_1; try clear hx84_0; try clear hx84_1; try clear hx87_1; try clear hx92_0; try clear hx92_1; try clear hx93_1; try clear p148; try clear p152; try clear p154; try clear p84; try clear p92; try clear q148; try clear q152; try clear q154; try clear q84; try clear q92
     obtain ⟨kq, x10_51, x135003_51, x147000_51, x147002_51, u135003, HA, HJ51, HO_10, HO_135002, HO_135003, BK133, BK134, BK135, BK136, BK146, HB⟩ := hcut
     cases kq with
     | zero => exact absurd HA.out (by simp [exact_Ask.j2])
     | succ kj51 =>
      have H := HA.out
      clear HA
      simp only [exact_Ask.j2] at H
      replace H := Option.bind_eq_some_iff.mp H
      obtain ⟨t157, A1220, H⟩ := H
      have A122 := Aside0.mk A1220
      clear A1220
      replace H := Option.bind_eq_some_iff.mp H
      obtain ⟨t158, A1230, H⟩ := H
      have A123 := Aside0.mk A1230
      clear A1230
      simp only [Option.some.injEq, Prod.mk.injEq] at H
      obtain ⟨rfl, rfl, rfl, rfl, rfl, rfl, rfl, rfl⟩ := H
      try go_wp2
      replace HO_10 := Aside0.mk (Kd.R_drew HO_10.out)
      replace HO_135002 := Aside0.mk (Kd.V_drew HO_135002.out)
      replace HO_135003 := Aside0.mk (Kd.V_drew HO_135003.out)
      replace BK133 := Aside0.mk (blk_drew BK133.out)
      replace BK134 := Aside0.mk (blk_drew BK134.out)
      replace BK135 := Aside0.mk (blk_drew BK135.out)
      replace BK136 := Aside0.mk (blk_drew BK136.out)
      replace BK146 := Aside0.mk (blk_drew BK146.out)
      replace HB := Aside0.mk (below_drew1 HB.out)
      obtain ⟨Ao125, co125, eo125⟩ := Kd.R_slice HO_10.out
      (first | subst eo125 | (injection eo125 with f1_ f2_ f3_; have f4_ := f1_.symm; have f5_ := f3_.symm; clear f1_ f2_ f3_; subst f4_; subst f5_))
      refine start_ (n := 7) (S := fun w' => w'.cell? ⟨gb133, 0, none⟩ = some (.int .i64 a0_0) ∧ w'.cell? ⟨gb133, 1, none⟩ = some (.int .i64 a0_1) ∧ w'.cell? ⟨gb133, 2, none⟩ = some (.int .i64 a0_2) ∧ w'.cell? ⟨gb133, 3, none⟩ = some (.int .i64 a0_3)) (ds := []) #[false, false, false, false, false, false, false] (by kernel_rfl) rfl rfl ⟨(blk_cell BK133.out 0).trans rfl, (blk_cell BK133.out 1).trans rfl, (blk_cell BK133.out 2).trans rfl, (blk_cell BK133.out 3).trans rfl⟩ (fun hHeld => ?_)
      generalize wc.drew = w124 at HO_10 HO_135002 HO_135003 BK133 BK134 BK135 BK136 BK146 HB hHeld ⊢
      refine pureB 0 92 ?_
      refine pureB 2 94 ?_
      refine takeB' 1 93 hHeld ?_
      refine one_ (i := 3) (N := some 95) #[true, true, true, true, false, false, false] rfl rfl (by kernel_rfl) (by decide) (fun K hK => ?_)
      refine goes_ Try.func25 (by kernel_rfl) rfl #[.slice Ao125 x10_51.length co125] (by rfl) rfl rfl (by (try simp only [List.map_toArray, List.map_cons, List.map_nil]); first | done | rfl | (simp only [List.length_drop, List.length_take]; rfl)) ?_
      with_reducible refine (exact_count.calls kj51 _ _ x10_51 t157 _ ?side1 ?side2 A122.out).mono ?_
      (case side1 => repeat (first | exact (Kd.R_reads' HO_10.out).2.2 | (with_reducible refine Kd.C_alloc ?_ _) | (with_reducible refine Kd.C_drewN ?_ _) | (with_reducible refine Kd.C_drew ?_)))
      (case side2 => exact (Kd.R_reads' HO_10.out).2.1)
      rintro e w126 ⟨rfl, hb⟩
      refine ⟨_, rfl, ?_⟩
      replace HO_10 := Aside0.mk (Kd.R_below (by (with_reducible repeat (first | apply Kd.R_alloc | apply Kd.R_drewN | apply Kd.R_drew)); exact HO_10.out) hb)
      replace HO_135002 := vb HO_135002 hb
      replace HO_135003 := vb HO_135003 hb
      replace BK133 := Aside0.mk (blk_below (bo BK133) hb)
      replace BK134 := Aside0.mk (blk_below (bo BK134) hb)
      replace BK135 := Aside0.mk (blk_below (bo BK135) hb)
      replace BK136 := Aside0.mk (blk_below (bo BK136) hb)
      replace BK146 := Aside0.mk (blk_below (bo BK146) hb)
      replace HB := Aside0.mk (below_step (bl HB) hb)
      (try clear hb)
      (try clear hb2)
      (try clear hk)
      (try clear hi)
      refine hK.out _ _ ⟨(blk_cell BK133.out 0).trans rfl, (blk_cell BK133.out 1).trans rfl, (blk_cell BK133.out 2).trans rfl, (blk_cell BK133.out 3).trans rfl⟩ (fun hHeld => ?_)
      clear hK K
      refine norm_ (a' := ?_) ?_ ?_
      rotate_left
      ·show Act.put _ (some 95) _ = _
       simp only [Act.put, List.setIfInBounds_toArray, List.set_cons_zero, List.set_cons_succ, i64_w, i32_w]
       rfl
      refine pureB 4 96 ?_
      refine pureB 5 97 ?_
      refine one_ (i := 6) (N := none) #[true, true, true, true, true, true, true] rfl rfl (by kernel_rfl) (by decide) (fun K hK => ?_)
      have hs127 : w126.cell? ⟨gb146, 1, none⟩ = some (.int .i64 0) := (blk_cell BK146.out 1).trans rfl
      have hfs127 := blk_frozen BK146.out 1
      have hns127_0 := NB133_146.out
      have hns127_1 := NB134_146.out
      have hns127_2 := NB135_146.out
      have hns127_3 := NB136_146.out
      have hms127_0 := NB146_133.out
      have hms127_1 := NB146_134.out
      have hms127_2 := NB146_135.out
      have hms127_3 := NB146_136.out
      refine skip_ (w1 := ?_) (by rfl) rfl ?_ ?_
      rotate_left
      ·go_simp
       rfl
      refine hK.out _ _ ⟨((cell_far (p := ⟨gb146, _, none⟩) NB133_146.out _).trans (hHeld.1)), ((cell_far (p := ⟨gb146, _, none⟩) NB133_146.out _).trans (hHeld.2.1)), ((cell_far (p := ⟨gb146, _, none⟩) NB133_146.out _).trans (hHeld.2.2.1)), ((cell_far (p := ⟨gb146, _, none⟩) NB133_146.out _).trans (hHeld.2.2.2))⟩ (fun hHeld => ?_)
      clear hK K
      refine done_ (by kernel_rfl) ?_
      have hnb128 := NB133_134.out
      have hnc128 := NB134_133.out
      have hnb129 := NB133_135.out
      have hnc129 := NB135_133.out
      have hnb130 := NB133_136.out
      have hnc130 := NB136_133.out
      have hnb131 := NB133_146.out
      have hnc131 := NB146_133.out
      obtain ⟨hcz132_0, hcz132_1, hcz132_2, hcz132_3⟩ := ce4 BK133
      obtain ⟨hfz132_0, hfz132_1, hfz132_2, hfz132_3⟩ := fr4 BK133
      try go_wp2_with (first | ((with_reducible refine gate_callee (f := 26) rfl ?_); refine goesL_ (some 101) rfl rfl Try.func26 (by kernel_rfl) rfl #[.agg #[.int .i64 a0_0, .int .i64 a0_1, .int .i64 a0_2, .int .i64 a0_3], .slice Ao125 x10_51.length co125, .int .i64 ji49, .int .i64 0] rfl (by (try simp only [List.map_toArray, List.map_cons, List.map_nil]); first | done | (simp only [hji49]; rfl) | rfl | (simp only [List.length_drop, List.length_take]; rfl)) ?_; (with_reducible refine (exact_wait.calls kj51 a0_0 a0_1 a0_2 a0_3 _ _ x10_51 ji49 0 t158 _ ?side1 ?side2 A123.out).mono ?_); (case side1 => refine (Kd.R_reads' (e := 50) (base := w.heap.size) (ok := fun k_ => (w.heap.size ≤ k_)) (n := x10_51.length) (c := co125) ?_).2.2; exact (by (with_reducible repeat (first | apply Kd.R_alloc | apply Kd.R_drewN | apply Kd.R_drew)); exact (Kd.R_mono (Kd.R_far (p := ⟨gb146, 1, none⟩) (Kd.R_types HO_10.out BK146.out (by decide)) (fun _ hk => hk.2) (.int .i64 (wrap64 (a0_1 - t157)))) (fun _ h_ => h_.1)))); (case side2 => exact (Kd.R_reads' HO_10.out).2.1); rintro e w133 ⟨rfl, hb⟩; refine ⟨_, rfl, ?_⟩; replace HO_10 := Aside0.mk (Kd.R_below (by (with_reducible repeat (first | apply Kd.R_alloc | apply Kd.R_drewN | apply Kd.R_drew)); exact (Kd.R_mono (Kd.R_far (p := ⟨gb146, 1, none⟩) (Kd.R_types HO_10.out BK146.out (by decide)) (fun _ hk => hk.2) (.int .i64 (wrap64 (a0_1 - t157)))) (fun _ h_ => h_.1))) hb); replace HO_135002 := Aside0.mk (Kd.V_below (by (with_reducible repeat (first | apply Kd.V_alloc | apply Kd.V_drewN | apply Kd.V_drew)); exact (Kd.V_mono (Kd.V_far (p := ⟨gb146, 1, none⟩) (Kd.V_mono HO_135002.out (fun k_ hk => (⟨hk, hk.2.2.2.2.2.2⟩ : _ ∧ k_ ≠ gb146))) (fun _ hk => hk.2) (.int .i64 (wrap64 (a0_1 - t157)))) (fun _ h_ => h_.1))) hb); replace HO_135003 := Aside0.mk (Kd.V_below (by (with_reducible repeat (first | apply Kd.V_alloc | apply Kd.V_drewN | apply Kd.V_drew)); exact (Kd.V_mono (Kd.V_far (p := ⟨gb146, 1, none⟩) (Kd.V_mono HO_135003.out (fun k_ hk => (⟨hk, hk.2.2.2.2.2.2⟩ : _ ∧ k_ ≠ gb146))) (fun _ hk => hk.2) (.int .i64 (wrap64 (a0_1 - t157)))) (fun _ h_ => h_.1))) hb); replace BK133 := Aside0.mk (blk_below (g := gb133) (o := .cells #[.int .i64 a0_0, .int .i64 a0_1, .int .i64 a0_2, .int .i64 a0_3] 23 (0, 0)) (by (with_reducible repeat (first | refine blk_drewN ?_ _ | refine blk_drew ?_ | refine blk_alloc ?_ _)); refine blk_far ?_ NB133_146.out _; (with_reducible repeat (first | refine blk_drewN ?_ _ | refine blk_drew ?_ | refine blk_alloc ?_ _)); exact BK133.out) hb); replace BK134 := Aside0.mk (blk_below (g := gb134) (o := .cells #[.int .i64 a1_0, .int .i64 a1_1, .slice A1_2 l1_2.length c1_2, u135003] 27 (0, 0)) (by (with_reducible repeat (first | refine blk_drewN ?_ _ | refine blk_drew ?_ | refine blk_alloc ?_ _)); refine blk_far ?_ NB134_146.out _; (with_reducible repeat (first | refine blk_drewN ?_ _ | refine blk_drew ?_ | refine blk_alloc ?_ _)); exact BK134.out) hb); replace BK135 := Aside0.mk (blk_below (g := gb135) (o := .cells #[.int .i64 0, .int .i64 0, .slice none 0 0, .slice none 0 0] 27 (0, 0)) (by (with_reducible repeat (first | refine blk_drewN ?_ _ | refine blk_drew ?_ | refine blk_alloc ?_ _)); refine blk_far ?_ NB135_146.out _; (with_reducible repeat (first | refine blk_drewN ?_ _ | refine blk_drew ?_ | refine blk_alloc ?_ _)); exact BK135.out) hb); replace BK136 := Aside0.mk (blk_below (g := gb136) (o := .cells #[.bool false, .int .i64 0, .int .i64 0, .int .i64 0] 32 (0, 0)) (by (with_reducible repeat (first | refine blk_drewN ?_ _ | refine blk_drew ?_ | refine blk_alloc ?_ _)); refine blk_far ?_ NB136_146.out _; (with_reducible repeat (first | refine blk_drewN ?_ _ | refine blk_drew ?_ | refine blk_alloc ?_ _)); exact BK136.out) hb); replace BK146 := Aside0.mk (blk_below (g := gb146) (o := .cells #[.bool x147000_51, .int .i64 (wrap64 (a0_1 - t157)), .int .i64 x147002_51, .int .i64 0] 32 (0, 0)) (by (with_reducible repeat (first | refine blk_drewN ?_ _ | refine blk_drew ?_ | refine blk_alloc ?_ _)); refine blk_put (cs := #[.bool x147000_51, .int .i64 0, .int .i64 x147002_51, .int .i64 0]) ?_ 1 _ rfl; (with_reducible repeat (first | refine blk_drewN ?_ _ | refine blk_drew ?_ | refine blk_alloc ?_ _)); exact BK146.out) hb); replace HB := Aside0.mk (below_step (bl HB) hb); (try clear hb); (try clear hb2); (try clear hk); (try clear hi); have hnb134 := NB146_134.out; have hnc134 := NB134_146.out; have hnb135 := NB146_135.out; have hnc135 := NB135_146.out; have hnb136 := NB146_136.out; have hnc136 := NB136_146.out; obtain ⟨hcz137_0, hcz137_1, hcz137_2, hcz137_3⟩ := ce4 BK146; obtain ⟨hfz137_0, hfz137_1, hfz137_2, hfz137_3⟩ := fr4 BK146))
      have n0_ : Aside0 (Kd.R k50 50 (w133.setCell ⟨gb146, 3, none⟩ (.int .i64 t158)) w.heap.size (fun k_ => (w.heap.size ≤ k_)) (.slice Ao125 x10_51.length co125) x10_51) := ⟨by (with_reducible repeat (first | apply Kd.R_alloc | apply Kd.R_drewN | apply Kd.R_drew)); exact Kd.R_mono (Kd.R_far (p := ⟨gb146, 3, none⟩) (Kd.R_types HO_10.out BK146.out (by decide)) (fun _ hk => hk.2) (.int .i64 t158)) (fun _ hk => hk.1)⟩
      have n1_ : Aside0 (Kd.V (Kd.int .i64) 3 (w133.setCell ⟨gb146, 3, none⟩ (.int .i64 t158)) w.heap.size (fun k_ => ((P1_2_ k_ ∨ P1_3_ k_) ∨ w.heap.size ≤ k_) ∧ some k_ ≠ (.slice Ao125 x10_51.length co125 : Value).ownBlock ∧ k_ ≠ gb133 ∧ k_ ≠ gb134 ∧ k_ ≠ gb135 ∧ k_ ≠ gb136 ∧ k_ ≠ gb146) (.slice A1_2 l1_2.length c1_2) l1_2) := ⟨by (with_reducible repeat (first | apply Kd.V_alloc | apply Kd.V_drewN | apply Kd.V_drew)); exact Kd.V_mono (Kd.V_far (p := ⟨gb146, 3, none⟩) (Kd.V_mono HO_135002.out (fun k_ hk => (⟨hk, hk.2.2.2.2.2.2⟩ : _ ∧ k_ ≠ gb146))) (fun _ hk => hk.2) (.int .i64 t158)) (fun _ hk => ⟨hk.1.1, ⟨hk.1.2.1, ⟨hk.1.2.2.1, ⟨hk.1.2.2.2.1, ⟨hk.1.2.2.2.2.1, ⟨hk.1.2.2.2.2.2.1, hk.1.2.2.2.2.2.2⟩⟩⟩⟩⟩⟩)⟩
      have n2_ : Aside0 (Kd.V k50 50 (w133.setCell ⟨gb146, 3, none⟩ (.int .i64 t158)) w.heap.size (fun k_ => ((P1_2_ k_ ∨ P1_3_ k_) ∨ w.heap.size ≤ k_) ∧ some k_ ≠ (.slice Ao125 x10_51.length co125 : Value).ownBlock ∧ k_ ≠ gb133 ∧ k_ ≠ gb134 ∧ k_ ≠ gb135 ∧ k_ ≠ gb136 ∧ k_ ≠ gb146) u135003 x135003_51) := ⟨by (with_reducible repeat (first | apply Kd.V_alloc | apply Kd.V_drewN | apply Kd.V_drew)); exact Kd.V_mono (Kd.V_far (p := ⟨gb146, 3, none⟩) (Kd.V_mono HO_135003.out (fun k_ hk => (⟨hk, hk.2.2.2.2.2.2⟩ : _ ∧ k_ ≠ gb146))) (fun _ hk => hk.2) (.int .i64 t158)) (fun _ hk => ⟨hk.1.1, ⟨hk.1.2.1, ⟨hk.1.2.2.1, ⟨hk.1.2.2.2.1, ⟨hk.1.2.2.2.2.1, ⟨hk.1.2.2.2.2.2.1, hk.1.2.2.2.2.2.2⟩⟩⟩⟩⟩⟩)⟩
      have n3_ : Aside0 ((w133.setCell ⟨gb146, 3, none⟩ (.int .i64 t158)).heap[gb133]? = some (.cells #[.int .i64 a0_0, .int .i64 a0_1, .int .i64 a0_2, .int .i64 a0_3] 23 (0, 0))) := ⟨by (with_reducible repeat (first | refine blk_drewN ?_ _ | refine blk_drew ?_ | refine blk_alloc ?_ _)); refine blk_far ?_ NB133_146.out _; (with_reducible repeat (first | refine blk_drewN ?_ _ | refine blk_drew ?_ | refine blk_alloc ?_ _)); exact BK133.out⟩
      have n4_ : Aside0 ((w133.setCell ⟨gb146, 3, none⟩ (.int .i64 t158)).heap[gb134]? = some (.cells #[.int .i64 a1_0, .int .i64 a1_1, .slice A1_2 l1_2.length c1_2, u135003] 27 (0, 0))) := ⟨by (with_reducible repeat (first | refine blk_drewN ?_ _ | refine blk_drew ?_ | refine blk_alloc ?_ _)); refine blk_far ?_ NB134_146.out _; (with_reducible repeat (first | refine blk_drewN ?_ _ | refine blk_drew ?_ | refine blk_alloc ?_ _)); exact BK134.out⟩
      have n5_ : Aside0 ((w133.setCell ⟨gb146, 3, none⟩ (.int .i64 t158)).heap[gb135]? = some (.cells #[.int .i64 0, .int .i64 0, .slice none 0 0, .slice none 0 0] 27 (0, 0))) := ⟨by (with_reducible repeat (first | refine blk_drewN ?_ _ | refine blk_drew ?_ | refine blk_alloc ?_ _)); refine blk_far ?_ NB135_146.out _; (with_reducible repeat (first | refine blk_drewN ?_ _ | refine blk_drew ?_ | refine blk_alloc ?_ _)); exact BK135.out⟩
      have n6_ : Aside0 ((w133.setCell ⟨gb146, 3, none⟩ (.int .i64 t158)).heap[gb136]? = some (.cells #[.bool false, .int .i64 0, .int .i64 0, .int .i64 0] 32 (0, 0))) := ⟨by (with_reducible repeat (first | refine blk_drewN ?_ _ | refine blk_drew ?_ | refine blk_alloc ?_ _)); refine blk_far ?_ NB136_146.out _; (with_reducible repeat (first | refine blk_drewN ?_ _ | refine blk_drew ?_ | refine blk_alloc ?_ _)); exact BK136.out⟩
      have n7_ : Aside0 ((w133.setCell ⟨gb146, 3, none⟩ (.int .i64 t158)).heap[gb146]? = some (.cells #[.bool x147000_51, .int .i64 (wrap64 (a0_1 - t157)), .int .i64 x147002_51, .int .i64 t158] 32 (0, 0))) := ⟨by (with_reducible repeat (first | refine blk_drewN ?_ _ | refine blk_drew ?_ | refine blk_alloc ?_ _)); refine blk_put (cs := #[.bool x147000_51, .int .i64 (wrap64 (a0_1 - t157)), .int .i64 x147002_51, .int .i64 0]) ?_ 3 _ rfl; (with_reducible repeat (first | refine blk_drewN ?_ _ | refine blk_drew ?_ | refine blk_alloc ?_ _)); exact BK146.out⟩
      have n8_ : Aside0 (Below w.heap.size w (w133.setCell ⟨gb146, 3, none⟩ (.int .i64 t158))) := ⟨bl HB⟩
      (try clear HO_10)
      (try clear HO_135002)
      (try clear HO_135003)
      (try clear BK133)
      (try clear BK134)
      (try clear BK135)
      (try clear BK136)
      (try clear BK146)
      (try clear HB)
      generalize (w133.setCell ⟨gb146, 3, none⟩ (.int .i64 t158)) = w138 at n0_ n1_ n2_ n3_ n4_ n5_ n6_ n7_ n8_ ⊢
      have HO_10 := n0_
      have HO_135002 := n1_
      have HO_135003 := n2_
      have BK133 := n3_
      have BK134 := n4_
      have BK135 := n5_
      have BK136 := n6_
      have BK146 := n7_
      have HB := n8_
      clear n0_ n1_ n2_ n3_ n4_ n5_ n6_ n7_ n8_
      replace HO_10 := Aside0.mk (Kd.R_drew HO_10.out)
      replace HO_135002 := Aside0.mk (Kd.V_drew HO_135002.out)
      replace HO_135003 := Aside0.mk (Kd.V_drew HO_135003.out)
      replace BK133 := Aside0.mk (blk_drew BK133.out)
      replace BK134 := Aside0.mk (blk_drew BK134.out)
      replace BK135 := Aside0.mk (blk_drew BK135.out)
      replace BK136 := Aside0.mk (blk_drew BK136.out)
      replace BK146 := Aside0.mk (blk_drew BK146.out)
      replace HB := Aside0.mk (below_drew1 HB.out)
      refine start_ (n := 6) (S := fun w' => w'.cell? ⟨gb146, 0, none⟩ = some (.bool x147000_51) ∧ w'.cell? ⟨gb146, 1, none⟩ = some (.int .i64 (wrap64 (a0_1 - t157))) ∧ w'.cell? ⟨gb146, 2, none⟩ = some (.int .i64 x147002_51) ∧ w'.cell? ⟨gb146, 3, none⟩ = some (.int .i64 t158)) (ds := []) #[false, false, false, false, false, false] (by kernel_rfl) rfl rfl ⟨(blk_cell BK146.out 0).trans rfl, (blk_cell BK146.out 1).trans rfl, (blk_cell BK146.out 2).trans rfl, (blk_cell BK146.out 3).trans rfl⟩ (fun hHeld => ?_)
      generalize w138.drew = w139 at HO_10 HO_135002 HO_135003 BK133 BK134 BK135 BK136 BK146 HB hHeld ⊢
      refine pureB 0 103 ?_
      refine pureB 1 104 ?_
      refine pureB 2 105 ?_
      refine takeB' 3 106 hHeld ?_
      refine one_ (i := 4) (N := none) #[true, true, true, true, true, false] rfl rfl (by kernel_rfl) (by decide) (fun K hK => ?_)
      have hs140 : w139.cell? ⟨gb135, 0, none⟩ = some (.int .i64 0) := (blk_cell BK135.out 0).trans rfl
      have hfs140 := blk_frozen BK135.out 0
      have hns140_0 := NB133_135.out
      have hns140_1 := NB134_135.out
      have hns140_3 := NB136_135.out
      have hns140_4 := NB146_135.out
      have hms140_0 := NB135_133.out
      have hms140_1 := NB135_134.out
      have hms140_3 := NB135_136.out
      have hms140_4 := NB135_146.out
      have hs141 : w139.cell? ⟨gb135, 1, none⟩ = some (.int .i64 0) := (blk_cell BK135.out 1).trans rfl
      have hfs141 := blk_frozen BK135.out 1
      have hns141_0 := NB133_135.out
      have hns141_1 := NB134_135.out
      have hns141_3 := NB136_135.out
      have hns141_4 := NB146_135.out
      have hms141_0 := NB135_133.out
      have hms141_1 := NB135_134.out
      have hms141_3 := NB135_136.out
      have hms141_4 := NB135_146.out
      have hs142 : w139.cell? ⟨gb135, 2, none⟩ = some (.slice none 0 0) := (blk_cell BK135.out 2).trans rfl
      have hfs142 := blk_frozen BK135.out 2
      have hns142_0 := NB133_135.out
      have hns142_1 := NB134_135.out
      have hns142_3 := NB136_135.out
      have hns142_4 := NB146_135.out
      have hms142_0 := NB135_133.out
      have hms142_1 := NB135_134.out
      have hms142_3 := NB135_136.out
      have hms142_4 := NB135_146.out
      have hs143 : w139.cell? ⟨gb135, 3, none⟩ = some (.slice none 0 0) := (blk_cell BK135.out 3).trans rfl
      have hfs143 := blk_frozen BK135.out 3
      have hns143_0 := NB133_135.out
      have hns143_1 := NB134_135.out
      have hns143_3 := NB136_135.out
      have hns143_4 := NB146_135.out
      have hms143_0 := NB135_133.out
      have hms143_1 := NB135_134.out
      have hms143_3 := NB135_136.out
      have hms143_4 := NB135_146.out
      refine skip_ (w1 := ?_) (by rfl) rfl ?_ ?_
      rotate_left
      ·go_simp
       rfl
      refine hK.out _ _ ⟨((cell_far (p := ⟨gb135, _, none⟩) NB146_135.out _).trans (((cell_far (p := ⟨gb135, _, none⟩) NB146_135.out _).trans (((cell_far (p := ⟨gb135, _, none⟩) NB146_135.out _).trans (((cell_far (p := ⟨gb135, _, none⟩) NB146_135.out _).trans (hHeld.1)))))))), ((cell_far (p := ⟨gb135, _, none⟩) NB146_135.out _).trans (((cell_far (p := ⟨gb135, _, none⟩) NB146_135.out _).trans (((cell_far (p := ⟨gb135, _, none⟩) NB146_135.out _).trans (((cell_far (p := ⟨gb135, _, none⟩) NB146_135.out _).trans (hHeld.2.1)))))))), ((cell_far (p := ⟨gb135, _, none⟩) NB146_135.out _).trans (((cell_far (p := ⟨gb135, _, none⟩) NB146_135.out _).trans (((cell_far (p := ⟨gb135, _, none⟩) NB146_135.out _).trans (((cell_far (p := ⟨gb135, _, none⟩) NB146_135.out _).trans (hHeld.2.2.1)))))))), ((cell_far (p := ⟨gb135, _, none⟩) NB146_135.out _).trans (((cell_far (p := ⟨gb135, _, none⟩) NB146_135.out _).trans (((cell_far (p := ⟨gb135, _, none⟩) NB146_135.out _).trans (((cell_far (p := ⟨gb135, _, none⟩) NB146_135.out _).trans (hHeld.2.2.2))))))))⟩ (fun hHeld => ?_)
      clear hK K
      refine one_ (i := 5) (N := none) #[true, true, true, true, true, true] rfl rfl (by kernel_rfl) (by decide) (fun K hK => ?_)
      have hs144 : w139.cell? ⟨gb136, 0, none⟩ = some (.bool false) := (blk_cell BK136.out 0).trans rfl
      have hfs144 := blk_frozen BK136.out 0
      have hns144_0 := NB133_136.out
      have hns144_1 := NB134_136.out
      have hns144_2 := NB135_136.out
      have hns144_4 := NB146_136.out
      have hms144_0 := NB136_133.out
      have hms144_1 := NB136_134.out
      have hms144_2 := NB136_135.out
      have hms144_4 := NB136_146.out
      have hs145 : w139.cell? ⟨gb136, 1, none⟩ = some (.int .i64 0) := (blk_cell BK136.out 1).trans rfl
      have hfs145 := blk_frozen BK136.out 1
      have hns145_0 := NB133_136.out
      have hns145_1 := NB134_136.out
      have hns145_2 := NB135_136.out
      have hns145_4 := NB146_136.out
      have hms145_0 := NB136_133.out
      have hms145_1 := NB136_134.out
      have hms145_2 := NB136_135.out
      have hms145_4 := NB136_146.out
      have hs146 : w139.cell? ⟨gb136, 2, none⟩ = some (.int .i64 0) := (blk_cell BK136.out 2).trans rfl
      have hfs146 := blk_frozen BK136.out 2
      have hns146_0 := NB133_136.out
      have hns146_1 := NB134_136.out
      have hns146_2 := NB135_136.out
      have hns146_4 := NB146_136.out
      have hms146_0 := NB136_133.out
      have hms146_1 := NB136_134.out
      have hms146_2 := NB136_135.out
      have hms146_4 := NB136_146.out
      have hs147 : w139.cell? ⟨gb136, 3, none⟩ = some (.int .i64 0) := (blk_cell BK136.out 3).trans rfl
      have hfs147 := blk_frozen BK136.out 3
      have hns147_0 := NB133_136.out
      have hns147_1 := NB134_136.out
      have hns147_2 := NB135_136.out
      have hns147_4 := NB146_136.out
      have hms147_0 := NB136_133.out
      have hms147_1 := NB136_134.out
      have hms147_2 := NB136_135.out
      have hms147_4 := NB136_146.out
      refine skip_ (w1 := ?_) (by rfl) rfl ?_ ?_
      rotate_left
      ·go_simp
       rfl
      refine hK.out _ _ ⟨((cell_far (p := ⟨gb136, _, none⟩) NB146_136.out _).trans (((cell_far (p := ⟨gb136, _, none⟩) NB146_136.out _).trans (((cell_far (p := ⟨gb136, _, none⟩) NB146_136.out _).trans (((cell_far (p := ⟨gb136, _, none⟩) NB146_136.out _).trans (hHeld.1)))))))), ((cell_far (p := ⟨gb136, _, none⟩) NB146_136.out _).trans (((cell_far (p := ⟨gb136, _, none⟩) NB146_136.out _).trans (((cell_far (p := ⟨gb136, _, none⟩) NB146_136.out _).trans (((cell_far (p := ⟨gb136, _, none⟩) NB146_136.out _).trans (hHeld.2.1)))))))), ((cell_far (p := ⟨gb136, _, none⟩) NB146_136.out _).trans (((cell_far (p := ⟨gb136, _, none⟩) NB146_136.out _).trans (((cell_far (p := ⟨gb136, _, none⟩) NB146_136.out _).trans (((cell_far (p := ⟨gb136, _, none⟩) NB146_136.out _).trans (hHeld.2.2.1)))))))), ((cell_far (p := ⟨gb136, _, none⟩) NB146_136.out _).trans (((cell_far (p := ⟨gb136, _, none⟩) NB146_136.out _).trans (((cell_far (p := ⟨gb136, _, none⟩) NB146_136.out _).trans (((cell_far (p := ⟨gb136, _, none⟩) NB146_136.out _).trans (hHeld.2.2.2))))))))⟩ (fun hHeld => ?_)
      clear hK K
      refine done_ (by kernel_rfl) ?_
      try go_wp2
      refine bodyPost_ret (results_cc rfl _ _ gb135 gb136 27 32 #[.int .i64 ji49, .int .i64 0, .slice none 0 0, .slice Ao125 x10_51.length co125] #[.bool x147000_51, .int .i64 (wrap64 (a0_1 - t157)), .int .i64 x147002_51, .int .i64 t158] (0, 0) (0, 0) _ _ rfl (by (with_reducible repeat (first | refine blk_drewN ?_ _ | refine blk_drew ?_ | refine blk_alloc ?_ _)); refine blk_far ?_ NB135_136.out _; (with_reducible repeat (first | refine blk_drewN ?_ _ | refine blk_drew ?_ | refine blk_alloc ?_ _)); refine blk_far ?_ NB135_136.out _; (with_reducible repeat (first | refine blk_drewN ?_ _ | refine blk_drew ?_ | refine blk_alloc ?_ _)); refine blk_far ?_ NB135_136.out _; (with_reducible repeat (first | refine blk_drewN ?_ _ | refine blk_drew ?_ | refine blk_alloc ?_ _)); refine blk_far ?_ NB135_136.out _; (with_reducible repeat (first | refine blk_drewN ?_ _ | refine blk_drew ?_ | refine blk_alloc ?_ _)); refine blk_put (cs := #[.int .i64 ji49, .int .i64 0, .slice none 0 0, .slice none 0 0]) ?_ 3 _ rfl; (with_reducible repeat (first | refine blk_drewN ?_ _ | refine blk_drew ?_ | refine blk_alloc ?_ _)); refine blk_put (cs := #[.int .i64 ji49, .int .i64 0, .slice none 0 0, .slice none 0 0]) ?_ 2 _ rfl; (with_reducible repeat (first | refine blk_drewN ?_ _ | refine blk_drew ?_ | refine blk_alloc ?_ _)); refine blk_put (cs := #[.int .i64 ji49, .int .i64 0, .slice none 0 0, .slice none 0 0]) ?_ 1 _ rfl; (with_reducible repeat (first | refine blk_drewN ?_ _ | refine blk_drew ?_ | refine blk_alloc ?_ _)); refine blk_put (cs := #[.int .i64 0, .int .i64 0, .slice none 0 0, .slice none 0 0]) ?_ 0 _ rfl; (with_reducible repeat (first | refine blk_drewN ?_ _ | refine blk_drew ?_ | refine blk_alloc ?_ _)); exact BK135.out) Try.underlying27 rfl (by kernel_rfl) rfl (by (with_reducible repeat (first | refine blk_drewN ?_ _ | refine blk_drew ?_ | refine blk_alloc ?_ _)); refine blk_put (cs := #[.bool x147000_51, .int .i64 (wrap64 (a0_1 - t157)), .int .i64 x147002_51, .int .i64 0]) ?_ 3 _ rfl; (with_reducible repeat (first | refine blk_drewN ?_ _ | refine blk_drew ?_ | refine blk_alloc ?_ _)); refine blk_put (cs := #[.bool x147000_51, .int .i64 (wrap64 (a0_1 - t157)), .int .i64 0, .int .i64 0]) ?_ 2 _ rfl; (with_reducible repeat (first | refine blk_drewN ?_ _ | refine blk_drew ?_ | refine blk_alloc ?_ _)); refine blk_put (cs := #[.bool x147000_51, .int .i64 0, .int .i64 0, .int .i64 0]) ?_ 1 _ rfl; (with_reducible repeat (first | refine blk_drewN ?_ _ | refine blk_drew ?_ | refine blk_alloc ?_ _)); refine blk_put (cs := #[.bool false, .int .i64 0, .int .i64 0, .int .i64 0]) ?_ 0 _ rfl; (with_reducible repeat (first | refine blk_drewN ?_ _ | refine blk_drew ?_ | refine blk_alloc ?_ _)); refine blk_far ?_ NB136_135.out _; (with_reducible repeat (first | refine blk_drewN ?_ _ | refine blk_drew ?_ | refine blk_alloc ?_ _)); refine blk_far ?_ NB136_135.out _; (with_reducible repeat (first | refine blk_drewN ?_ _ | refine blk_drew ?_ | refine blk_alloc ?_ _)); refine blk_far ?_ NB136_135.out _; (with_reducible repeat (first | refine blk_drewN ?_ _ | refine blk_drew ?_ | refine blk_alloc ?_ _)); refine blk_far ?_ NB136_135.out _; (with_reducible repeat (first | refine blk_drewN ?_ _ | refine blk_drew ?_ | refine blk_alloc ?_ _)); exact BK136.out) Try.underlying32 rfl (by kernel_rfl)) rfl ?_
      exact ⟨_, _, by first | (with_reducible rfl) | (simp only [← hji49]; with_reducible rfl) | (simp only [← hji49]; done) | rfl | (simp [errW_none, errW_some] <;> rfl) | (simp only [← hji49]; first | rfl | (simp [errW_none, errW_some] <;> rfl)) | (simp [*, errW_none, errW_some] <;> rfl), Kd.V_nil _ _ _ _ _, Kd.V_mono (Kd.R_V (by (with_reducible repeat (first | apply Kd.R_alloc | apply Kd.R_drewN | apply Kd.R_drew)); exact Kd.R_mono (Kd.R_far (p := ⟨gb136, 3, none⟩) (Kd.R_far (p := ⟨gb136, 2, none⟩) (Kd.R_far (p := ⟨gb136, 1, none⟩) (Kd.R_far (p := ⟨gb136, 0, none⟩) (Kd.R_far (p := ⟨gb135, 3, none⟩) (Kd.R_far (p := ⟨gb135, 2, none⟩) (Kd.R_far (p := ⟨gb135, 1, none⟩) (Kd.R_far (p := ⟨gb135, 0, none⟩) (Kd.R_types (Kd.R_types HO_10.out BK135.out (by decide)) BK136.out (by decide)) (fun _ hk => hk.1.2) (.int .i64 ji49)) (fun _ hk => hk.1.2) (.int .i64 0)) (fun _ hk => hk.1.2) (.slice none 0 0)) (fun _ hk => hk.1.2) (.slice Ao125 x10_51.length co125)) (fun _ hk => hk.2) (.bool x147000_51)) (fun _ hk => hk.2) (.int .i64 (wrap64 (a0_1 - t157)))) (fun _ hk => hk.2) (.int .i64 x147002_51)) (fun _ hk => hk.2) (.int .i64 t158)) (fun _ hk => hk.1.1))) (fun k_ hk => by first | exact ⟨(.inr (hk.1)), hk.2⟩ | exact (.inr (hk))), bl HB⟩

end Go.Proofs.Ytempbjcmhillgaa.Q
