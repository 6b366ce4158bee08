-- Laid by wip/tools/hprint.py, a program of this repo, over the kit's print; not a text of print.sh.
import Derived.Test.YtalcmlgkdkbbaaaQ0
namespace Go.Proofs.Ytalcmlgkdkbbaaa.Q
open Go.RowKit Go.Proofs.Ytalcmlgkdkbbaaa.Zip Go.Proofs.YtalcmlgkdkbbaaaW.PrintWords Go.Proofs.YtalcmlgkdkbbaaaW.PrintLast Go.Proofs.YtalcmlgkdkbbaaaW.PrintMore
attribute [local go_sem] max2_int min2_int max_two min_two max_three min_three max_four min_four   -- for this text's walks alone
set_option linter.unusedVariables false
set_option linter.unusedSimpArgs false

/-! ### sandglassref09_Check: function 20 -/
mutual
def sandglassref09_Check.j0 : Nat → Bool → Int → Int → Int → Int → Option (Int)
  | 0, _, _, _, _, _ => none
  | k + 1, x30, x270000, x270001, x270002, x270003 => if x30 = true then (some 1) else (if x270000 = 4 then (sandglassref09_Check.j1 k (decide (x270001 > 16)) x270000 x270001 x270002 x270003) else (sandglassref09_Check.j1 k false x270000 x270001 x270002 x270003))
def sandglassref09_Check.j1 : Nat → Bool → Int → Int → Int → Int → Option (Int)
  | 0, _, _, _, _, _ => none
  | k + 1, x38, x270000, x270001, x270002, x270003 => if x38 = true then (some 1) else (if x270000 = 3 then (if x270003 < 1 then (sandglassref09_Check.j2 k true) else (if x270003 > 16 then (sandglassref09_Check.j2 k true) else (if x270003 = 0 then (none) else (sandglassref09_Check.j2 k ((Int.tmod x270002 x270003) != 0))))) else (if x270003 = 0 then (some 0) else (some 1)))
def sandglassref09_Check.j2 : Nat → Bool → Option (Int)
  | 0, _ => none
  | k + 1, x60 => if x60 = true then (some 1) else (some 0)
end
def sandglassref09_Check.f (k : Nat) (a0_0 : Int) (a0_1 : Int) (a0_2 : Int) (a0_3 : Int) : Option (Int) := if a0_0 < 1 then (sandglassref09_Check.j0 k true a0_0 a0_1 a0_2 a0_3) else (if a0_0 > 4 then (sandglassref09_Check.j0 k true a0_0 a0_1 a0_2 a0_3) else (if a0_1 < 1 then (sandglassref09_Check.j0 k true a0_0 a0_1 a0_2 a0_3) else (if a0_1 > 1048576 then (sandglassref09_Check.j0 k true a0_0 a0_1 a0_2 a0_3) else (if a0_2 < 1 then (sandglassref09_Check.j0 k true a0_0 a0_1 a0_2 a0_3) else (sandglassref09_Check.j0 k (decide (a0_2 > 1048576)) a0_0 a0_1 a0_2 a0_3)))))
theorem sandglassref09_Check.mono_l : ∀ k, (∀ y0 y1 y2 y3 y4, LeO (sandglassref09_Check.j0 k y0 y1 y2 y3 y4) (sandglassref09_Check.j0 (k + 1) y0 y1 y2 y3 y4)) ∧ (∀ y0 y1 y2 y3 y4, LeO (sandglassref09_Check.j1 k y0 y1 y2 y3 y4) (sandglassref09_Check.j1 (k + 1) y0 y1 y2 y3 y4)) ∧ (∀ y0, LeO (sandglassref09_Check.j2 k y0) (sandglassref09_Check.j2 (k + 1) y0))
  | 0 => ⟨fun _ _ _ _ _ r h => by simp [sandglassref09_Check.j0] at h, fun _ _ _ _ _ r h => by simp [sandglassref09_Check.j1] at h, fun _ r h => by simp [sandglassref09_Check.j2] at h⟩
  | k + 1 => by
    obtain ⟨ih0, ih1, ih2⟩ := sandglassref09_Check.mono_l k
    refine ⟨?_, ?_, ?_⟩
    · intro y0 y1 y2 y3 y4
      unfold sandglassref09_Check.j0
      repeat' first
      | (with_reducible exact ih0 _ _ _ _ _)
      | (with_reducible exact ih1 _ _ _ _ _)
      | (with_reducible exact ih2 _)
      | (with_reducible exact LeO.refl _)
      | (with_reducible exact LeO.none _)
      | (with_reducible refine LeO.ite ?_ ?_)
      | (with_reducible refine LeO.bind ?_ (fun _ => ?_))
      | exact ih0 _ _ _ _ _
      | exact ih1 _ _ _ _ _
      | exact ih2 _
      | exact LeO.none _
      | refine LeO.ite ?_ ?_
      | refine LeO.bind ?_ (fun _ => ?_)
    · intro y0 y1 y2 y3 y4
      unfold sandglassref09_Check.j1
      repeat' first
      | (with_reducible exact ih0 _ _ _ _ _)
      | (with_reducible exact ih1 _ _ _ _ _)
      | (with_reducible exact ih2 _)
      | (with_reducible exact LeO.refl _)
      | (with_reducible exact LeO.none _)
      | (with_reducible refine LeO.ite ?_ ?_)
      | (with_reducible refine LeO.bind ?_ (fun _ => ?_))
      | exact ih0 _ _ _ _ _
      | exact ih1 _ _ _ _ _
      | exact ih2 _
      | exact LeO.none _
      | refine LeO.ite ?_ ?_
      | refine LeO.bind ?_ (fun _ => ?_)
    · intro y0
      unfold sandglassref09_Check.j2
      repeat' first
      | (with_reducible exact ih0 _ _ _ _ _)
      | (with_reducible exact ih1 _ _ _ _ _)
      | (with_reducible exact ih2 _)
      | (with_reducible exact LeO.refl _)
      | (with_reducible exact LeO.none _)
      | (with_reducible refine LeO.ite ?_ ?_)
      | (with_reducible refine LeO.bind ?_ (fun _ => ?_))
      | exact ih0 _ _ _ _ _
      | exact ih1 _ _ _ _ _
      | exact ih2 _
      | exact LeO.none _
      | refine LeO.ite ?_ ?_
      | refine LeO.bind ?_ (fun _ => ?_)
theorem sandglassref09_Check.mono : ∀ a0 a1 a2 a3 k, LeO (sandglassref09_Check.f k a0 a1 a2 a3) (sandglassref09_Check.f (k + 1) a0 a1 a2 a3) := by
  intro a0 a1 a2 a3 k
  obtain ⟨ih0, ih1, ih2⟩ := sandglassref09_Check.mono_l k
  unfold sandglassref09_Check.f
  repeat' first
      | (with_reducible exact ih0 _ _ _ _ _)
      | (with_reducible exact ih1 _ _ _ _ _)
      | (with_reducible exact ih2 _)
      | (with_reducible exact LeO.refl _)
      | (with_reducible exact LeO.none _)
      | (with_reducible refine LeO.ite ?_ ?_)
      | (with_reducible refine LeO.bind ?_ (fun _ => ?_))
      | exact ih0 _ _ _ _ _
      | exact ih1 _ _ _ _ _
      | exact ih2 _
      | exact LeO.none _
      | refine LeO.ite ?_ ?_
      | refine LeO.bind ?_ (fun _ => ?_)
set_option maxHeartbeats 8000000 in
set_option maxRecDepth 100000 in
theorem sandglassref09_Check.calls (k : Nat) (a0_0 : Int) (a0_1 : Int) (a0_2 : Int) (a0_3 : Int) (r : Int) (w : World) (h : sandglassref09_Check.f k a0_0 a0_1 a0_2 a0_3 = some r) :
  Calls Try.prog 20 #[.agg #[.int .i64 a0_0, .int .i64 a0_1, .int .i64 a0_2, .int .i64 a0_3]] w fun e w' => e = .returned (.int .i64 r) ∧ Below w.heap.size w w' := by
 have hu23 := Try.underlying23
 have HB := Aside0.mk (Below.refl w.heap.size w)
 have H : (if a0_0 < 1 then (sandglassref09_Check.j0 k true a0_0 a0_1 a0_2 a0_3) else (if a0_0 > 4 then (sandglassref09_Check.j0 k true a0_0 a0_1 a0_2 a0_3) else (if a0_1 < 1 then (sandglassref09_Check.j0 k true a0_0 a0_1 a0_2 a0_3) else (if a0_1 > 1048576 then (sandglassref09_Check.j0 k true a0_0 a0_1 a0_2 a0_3) else (if a0_2 < 1 then (sandglassref09_Check.j0 k true a0_0 a0_1 a0_2 a0_3) else (sandglassref09_Check.j0 k (decide (a0_2 > 1048576)) a0_0 a0_1 a0_2 a0_3)))))) = some r := h
 clear h
 have HC2 := Aside0.mk H
 clear H
 go_enter Try.func20, Try.ntmps20
 go_upto_region 1 with (first | ((with_reducible refine gate_dst (N := 1) rfl ?_); refine box_event ?hg (N := 1) ?hd (cs := #[.int .i64 a0_0, .int .i64 a0_1, .int .i64 a0_2, .int .i64 a0_3]) (t := 23) ?hr ?_; (case hd => rfl); (case hg => rfl); (case hr => first | (go_simp; done) | (go_simp; rfl)); intro gb269 hg w3 hbox hb; have BK269 := Aside0.mk (hbox); have GW269 := Aside0.mk ((by rw [hg]; exact (below_size (bl HB)) : w.heap.size ≤ gb269)); have GE269 := Aside0.mk ((by rw [hg]; exact (below_size (bl HB)) : w.heap.size ≤ gb269)); replace HB := Aside0.mk (below_step (bl HB) hb); clear hb hbox hg))
 (try simp only [Act.put, List.setIfInBounds_toArray, List.set_cons_zero, List.set_cons_succ])
 go_cut [30] (fun v30 wc => ∃ (kq : Nat) (x30_1 : Bool), v30 = .bool x30_1 ∧ Aside0 (sandglassref09_Check.j0 kq x30_1 a0_0 a0_1 a0_2 a0_3 = some r) ∧ Aside0 (kq ≤ k) ∧ Aside0 (wc.heap[gb269]? = some (.cells #[.int .i64 a0_0, .int .i64 a0_1, .int .i64 a0_2, .int .i64 a0_3] 23 (0, 0))) ∧ Aside0 (Below w.heap.size w wc))
 case first =>
  have H := HC2.out
  clear HC2
  by_cases c4 : a0_0 < 1
  ·rw [if_pos c4] at H
   have c4b0 : decide (a0_0 < 1) = true := decide_eq_true c4
   clear c4
   (first | rw [c4b0] | (simp only [i64_w, i32_w]; rw [c4b0]) | skip)
   have H' := Aside0.mk H
   clear H
   obtain ⟨hcz5_0, hcz5_1, hcz5_2, hcz5_3⟩ := ce4 BK269
   obtain ⟨hfz5_0, hfz5_1, hfz5_2, hfz5_3⟩ := fr4 BK269
   go_wp2
   go_meet
   case rel => exact ⟨_, (true), (by first | (with_reducible rfl) | rfl | (simp; done) | (simp [*]; done)), H', ⟨by first | omega | exact Nat.le_refl _⟩, ⟨bo BK269⟩, ⟨bl HB⟩⟩
  ·rw [if_neg c4] at H
   have c4b0 : decide (a0_0 < 1) = false := decide_eq_false c4
   clear c4
   (first | rw [c4b0] | (simp only [i64_w, i32_w]; rw [c4b0]) | skip)
   by_cases c6 : a0_0 > 4
   ·rw [if_pos c6] at H
    have c6b0 : decide (4 < a0_0) = true := decide_eq_true c6
    clear c6
    have H' := Aside0.mk H
    clear H
    obtain ⟨hcz7_0, hcz7_1, hcz7_2, hcz7_3⟩ := ce4 BK269
    obtain ⟨hfz7_0, hfz7_1, hfz7_2, hfz7_3⟩ := fr4 BK269
    go_wp2
    go_meet
    case rel => exact ⟨_, (true), (by first | (with_reducible rfl) | rfl | (simp; done) | (simp [*]; done)), H', ⟨by first | omega | exact Nat.le_refl _⟩, ⟨bo BK269⟩, ⟨bl HB⟩⟩
   ·rw [if_neg c6] at H
    have c6b0 : decide (4 < a0_0) = false := decide_eq_false c6
    clear c6
    by_cases c8 : a0_1 < 1
    ·rw [if_pos c8] at H
     have c8b0 : decide (a0_1 < 1) = true := decide_eq_true c8
     clear c8
     have H' := Aside0.mk H
     clear H
     obtain ⟨hcz9_0, hcz9_1, hcz9_2, hcz9_3⟩ := ce4 BK269
     obtain ⟨hfz9_0, hfz9_1, hfz9_2, hfz9_3⟩ := fr4 BK269
     go_wp2
     go_meet
     case rel => exact ⟨_, (true), (by first | (with_reducible rfl) | rfl | (simp; done) | (simp [*]; done)), H', ⟨by first | omega | exact Nat.le_refl _⟩, ⟨bo BK269⟩, ⟨bl HB⟩⟩
    ·rw [if_neg c8] at H
     have c8b0 : decide (a0_1 < 1) = false := decide_eq_false c8
     clear c8
     by_cases c10 : a0_1 > 1048576
     ·rw [if_pos c10] at H
      have c10b0 : decide (1048576 < a0_1) = true := decide_eq_true c10
      clear c10
      have H' := Aside0.mk H
      clear H
      obtain ⟨hcz11_0, hcz11_1, hcz11_2, hcz11_3⟩ := ce4 BK269
      obtain ⟨hfz11_0, hfz11_1, hfz11_2, hfz11_3⟩ := fr4 BK269
      go_wp2
      go_meet
      case rel => exact ⟨_, (true), (by first | (with_reducible rfl) | rfl | (simp; done) | (simp [*]; done)), H', ⟨by first | omega | exact Nat.le_refl _⟩, ⟨bo BK269⟩, ⟨bl HB⟩⟩
     ·rw [if_neg c10] at H
      have c10b0 : decide (1048576 < a0_1) = false := decide_eq_false c10
      clear c10
      by_cases c12 : a0_2 < 1
      ·rw [if_pos c12] at H
       have c12b0 : decide (a0_2 < 1) = true := decide_eq_true c12
       clear c12
       have H' := Aside0.mk H
       clear H
       obtain ⟨hcz13_0, hcz13_1, hcz13_2, hcz13_3⟩ := ce4 BK269
       obtain ⟨hfz13_0, hfz13_1, hfz13_2, hfz13_3⟩ := fr4 BK269
       go_wp2
       go_meet
       case rel => exact ⟨_, (true), (by first | (with_reducible rfl) | rfl | (simp; done) | (simp [*]; done)), H', ⟨by first | omega | exact Nat.le_refl _⟩, ⟨bo BK269⟩, ⟨bl HB⟩⟩
      ·rw [if_neg c12] at H
       have c12b0 : decide (a0_2 < 1) = false := decide_eq_false c12
       clear c12
       have H' := Aside0.mk H
       clear H
       obtain ⟨hcz14_0, hcz14_1, hcz14_2, hcz14_3⟩ := ce4 BK269
       obtain ⟨hfz14_0, hfz14_1, hfz14_2, hfz14_3⟩ := fr4 BK269
       go_wp2
       go_meet
       case rel => exact ⟨_, (decide (a0_2 > 1048576)), (by first | (with_reducible rfl) | rfl | (simp; done) | (simp [*]; done)), H', ⟨by first | omega | exact Nat.le_refl _⟩, ⟨bo BK269⟩, ⟨bl HB⟩⟩
 case rest =>
  clear HC2
  try clear c4; try clear c4b0; try clear c6; try clear c6b0; try clear c8; try clear c8b0; try clear c10; try clear c10b0; try clear c12; try clear c12b0; try clear hcz11_0; try clear hcz11_1; try clear hcz11_2; try clear hcz11_3; try clear hcz13_0; try clear hcz13_1; try clear hcz13_2; try clear hcz13_3; try clear hcz14_0; try clear hcz14_1; try clear hcz14_2; try clear hcz14_3; try clear hcz5_0; try clear hcz5_1; try clear hcz5_2; try clear hcz5_3; try clear hcz7_0; try clear hcz7_1; try clear hcz7_2; try clear hcz7_3; try clear hcz9_0; try clear hcz9_1; try clear hcz9_2; try clear hcz9_3; try clear hfz11_0; try clear hfz11_1; try clear hfz11_2; try clear hfz11_3; try clear hfz13_0; try clear hfz13_1; try clear hfz13_2; try clear hfz13_3; try clear hfz14_0; try clear hfz14_1; try clear hfz14_2; try clear hfz14_3; try clear hfz5_0; try clear hfz5_1; try clear hfz5_2; try clear hfz5_3; try clear hfz7_0; try clear hfz7_1; try clear hfz7_2; try clear hfz7_3; try clear hfz9_0; try clear hfz9_1; try clear hfz9_2; try clear hfz9_3
  obtain ⟨kq, x30_1, rfl, HA, HJ1, BK269, HB⟩ := hcut
  cases kq with
  | zero => exact absurd HA.out (by simp [sandglassref09_Check.j0])
  | succ kj1 =>
   have H := HA.out
   clear HA
   simp only [sandglassref09_Check.j0] at H
   by_cases c15 : x30_1 = true
   ·subst c15
    rw [if_pos rfl] at H
    obtain rfl := Option.some.inj H
    go_wp2
    go_ret
    exact ⟨by first | (with_reducible rfl) | rfl | (simp [errW_none, errW_some] <;> rfl) | (simp [*, errW_none, errW_some] <;> rfl), bl HB⟩
   ·replace c15 := Bool.eq_false_iff.mpr c15
    subst c15
    rw [if_neg (show ¬ (false = true) by decide)] at H
    have HC16 := Aside0.mk H
    clear H
    go_upto_region 3 with (fail)
    go_cut [38] (fun v38 wc => ∃ (kq : Nat) (x38_15 : Bool), v38 = .bool x38_15 ∧ Aside0 (sandglassref09_Check.j1 kq x38_15 a0_0 a0_1 a0_2 a0_3 = some r) ∧ Aside0 (kq ≤ kj1) ∧ Aside0 (wc.heap[gb269]? = some (.cells #[.int .i64 a0_0, .int .i64 a0_1, .int .i64 a0_2, .int .i64 a0_3] 23 (0, 0))) ∧ Aside0 (Below w.heap.size w wc))
    case first =>
     have H := HC16.out
     clear HC16
     by_cases c17 : a0_0 = 4
     ·rw [if_pos c17] at H
      have c17b0 : (a0_0 == 4) = true := beq_iff_eq.mpr c17
      have c17b1 : (a0_0 != 4) = false := bne_eq_false_iff_eq.mpr c17
      clear c17
      (first | rw [c17b0] | (simp only [i64_w, i32_w]; rw [c17b0]) | skip)
      have H' := Aside0.mk H
      clear H
      obtain ⟨hcz18_0, hcz18_1, hcz18_2, hcz18_3⟩ := ce4 BK269
      obtain ⟨hfz18_0, hfz18_1, hfz18_2, hfz18_3⟩ := fr4 BK269
      go_wp2
      go_meet
      case rel => exact ⟨_, (decide (a0_1 > 16)), (by first | (with_reducible rfl) | rfl | (simp; done) | (simp [*]; done)), H', ⟨by have := HJ1.out; first | omega | exact Nat.le_refl _⟩, ⟨bo BK269⟩, ⟨bl HB⟩⟩
     ·rw [if_neg c17] at H
      have c17b0 : (a0_0 == 4) = false := beq_eq_false_iff_ne.mpr c17
      have c17b1 : (a0_0 != 4) = true := bne_iff_ne.mpr c17
      (first | rw [c17b0] | (simp only [i64_w, i32_w]; rw [c17b0]) | skip)
      have H' := Aside0.mk H
      clear H
      obtain ⟨hcz19_0, hcz19_1, hcz19_2, hcz19_3⟩ := ce4 BK269
      obtain ⟨hfz19_0, hfz19_1, hfz19_2, hfz19_3⟩ := fr4 BK269
      go_wp2
      go_meet
      case rel => exact ⟨_, (false), (by first | (with_reducible rfl) | rfl | (simp; done) | (simp [*]; done)), H', ⟨by have := HJ1.out; first | omega | exact Nat.le_refl _⟩, ⟨bo BK269⟩, ⟨bl HB⟩⟩
    case rest =>
     clear HC16
     try clear c4; try clear c4b0; try clear c6; try clear c6b0; try clear c8; try clear c8b0; try clear c10; try clear c10b0; try clear c12; try clear c12b0; try clear c15; try clear c17; try clear c17b0; try clear c17b1; try clear hcz11_0; try clear hcz11_1; try clear hcz11_2; try clear hcz11_3; try clear hcz13_0; try clear hcz13_1; try clear hcz13_2; try clear hcz13_3; try clear hcz14_0; try clear hcz14_1; try clear hcz14_2; try clear hcz14_3; try clear hcz18_0; try clear hcz18_1; try clear hcz18_2; try clear hcz18_3; try clear hcz19_0; try clear hcz19_1; try clear hcz19_2; try clear hcz19_3; try clear hcz5_0; try clear hcz5_1; try clear hcz5_2; try clear hcz5_3; try clear hcz7_0; try clear hcz7_1; try clear hcz7_2; try clear hcz7_3; try clear hcz9_0; try clear hcz9_1; try clear hcz9_2; try clear hcz9_3; try clear hfz11_0; try clear hfz11_1; try clear hfz11_2; try clear hfz11_3; try clear hfz13_0; try clear hfz13_1; try clear hfz13_2; try clear hfz13_3; try clear hfz14_0; try clear hfz14_1; try clear hfz14_2; try clear hfz14_3; try clear hfz18_0; try clear hfz18_1; try clear hfz18_2; try clear hfz18_3; try clear hfz19_0; try clear hfz19_1; try clear hfz19_2; try clear hfz19_3; try clear hfz5_0; try clear hfz5_1; try clear hfz5_2; try clear hfz5_3; try clear hfz7_0; try clear hfz7_1; try clear hfz7_2; try clear hfz7_3; try clear hfz9_0; try clear hfz9_1; try clear hfz9_2; try clear hfz9_3
     obtain ⟨kq, x38_15, rfl, HA, HJ15, BK269, HB⟩ := hcut
     cases kq with
     | zero => exact absurd HA.out (by simp [sandglassref09_Check.j1])
     | succ kj15 =>
      have H := HA.out
      clear HA
      simp only [sandglassref09_Check.j1] at H
      by_cases c20 : x38_15 = true
      ·subst c20
       rw [if_pos rfl] at H
       obtain rfl := Option.some.inj H
       go_wp2
       go_ret
       exact ⟨by first | (with_reducible rfl) | rfl | (simp [errW_none, errW_some] <;> rfl) | (simp [*, errW_none, errW_some] <;> rfl), bl HB⟩
      ·replace c20 := Bool.eq_false_iff.mpr c20
       subst c20
       rw [if_neg (show ¬ (false = true) by decide)] at H
       by_cases c21 : a0_0 = 3
       ·rw [if_pos c21] at H
        have c21b0 : (a0_0 == 3) = true := beq_iff_eq.mpr c21
        have c21b1 : (a0_0 != 3) = false := bne_eq_false_iff_eq.mpr c21
        clear c21
        have HC22 := Aside0.mk H
        clear H
        obtain ⟨hcz23_0, hcz23_1, hcz23_2, hcz23_3⟩ := ce4 BK269
        obtain ⟨hfz23_0, hfz23_1, hfz23_2, hfz23_3⟩ := fr4 BK269
        go_upto_region 9 with (fail)
        go_cut [60] (fun v60 wc => ∃ (kq : Nat) (x60_21 : Bool), v60 = .bool x60_21 ∧ Aside0 (sandglassref09_Check.j2 kq x60_21 = some r) ∧ Aside0 (kq ≤ kj15) ∧ Aside0 (wc.heap[gb269]? = some (.cells #[.int .i64 a0_0, .int .i64 a0_1, .int .i64 a0_2, .int .i64 a0_3] 23 (0, 0))) ∧ Aside0 (Below w.heap.size w wc))
        case first =>
         have H := HC22.out
         clear HC22
         by_cases c24 : a0_3 < 1
         ·rw [if_pos c24] at H
          have c24b0 : decide (a0_3 < 1) = true := decide_eq_true c24
          clear c24
          (first | rw [c24b0] | (simp only [i64_w, i32_w]; rw [c24b0]) | skip)
          have H' := Aside0.mk H
          clear H
          obtain ⟨hcz25_0, hcz25_1, hcz25_2, hcz25_3⟩ := ce4 BK269
          obtain ⟨hfz25_0, hfz25_1, hfz25_2, hfz25_3⟩ := fr4 BK269
          go_wp2
          go_meet
          case rel => exact ⟨_, (true), (by first | (with_reducible rfl) | rfl | (simp; done) | (simp [*]; done)), H', ⟨by have := HJ1.out; have := HJ15.out; first | omega | exact Nat.le_refl _⟩, ⟨bo BK269⟩, ⟨bl HB⟩⟩
         ·rw [if_neg c24] at H
          have c24b0 : decide (a0_3 < 1) = false := decide_eq_false c24
          clear c24
          (first | rw [c24b0] | (simp only [i64_w, i32_w]; rw [c24b0]) | skip)
          by_cases c26 : a0_3 > 16
          ·rw [if_pos c26] at H
           have c26b0 : decide (16 < a0_3) = true := decide_eq_true c26
           clear c26
           have H' := Aside0.mk H
           clear H
           obtain ⟨hcz27_0, hcz27_1, hcz27_2, hcz27_3⟩ := ce4 BK269
           obtain ⟨hfz27_0, hfz27_1, hfz27_2, hfz27_3⟩ := fr4 BK269
           go_wp2
           go_meet
           case rel => exact ⟨_, (true), (by first | (with_reducible rfl) | rfl | (simp; done) | (simp [*]; done)), H', ⟨by have := HJ1.out; have := HJ15.out; first | omega | exact Nat.le_refl _⟩, ⟨bo BK269⟩, ⟨bl HB⟩⟩
          ·rw [if_neg c26] at H
           have c26b0 : decide (16 < a0_3) = false := decide_eq_false c26
           clear c26
           by_cases c28 : a0_3 = 0
           ·rw [if_pos c28] at H
            exact absurd H (by simp)
           ·rw [if_neg c28] at H
            have c28b0 : (a0_3 == 0) = false := beq_eq_false_iff_ne.mpr c28
            have c28b1 : (a0_3 != 0) = true := bne_iff_ne.mpr c28
            have H' := Aside0.mk H
            clear H
            obtain ⟨hcz29_0, hcz29_1, hcz29_2, hcz29_3⟩ := ce4 BK269
            obtain ⟨hfz29_0, hfz29_1, hfz29_2, hfz29_3⟩ := fr4 BK269
            go_wp2
            go_meet
            case rel => exact ⟨_, (((Int.tmod a0_2 a0_3) != 0)), (by first | (with_reducible rfl) | rfl | (simp; done) | (simp [*]; done)), H', ⟨by have := HJ1.out; have := HJ15.out; first | omega | exact Nat.le_refl _⟩, ⟨bo BK269⟩, ⟨bl HB⟩⟩
        case rest =>
         clear HC22
         try clear c4; try clear c4b0; try clear c6; try clear c6b0; try clear c8; try clear c8b0; try clear c10; try clear c10b0; try clear c12; try clear c12b0; try clear c15; try clear c17; try clear c17b0; try clear c17b1; try clear c20; try clear c21; try clear c21b0; try clear c21b1; try clear c24; try clear c24b0; try clear c26; try clear c26b0; try clear c28; try clear c28b0; try clear c28b1; try clear hcz11_0; try clear hcz11_1; try clear hcz11_2; try clear hcz11_3; try clear hcz13_0; try clear hcz13_1; try clear hcz13_2; try clear hcz13_3; try clear hcz14_0; try clear hcz14_1; try clear hcz14_2; try clear hcz14_3; try clear hcz18_0; try clear hcz18_1; try clear hcz18_2; try clear hcz18_3; try clear hcz19_0; try clear hcz19_1; try clear hcz19_2; try clear hcz19_3; try clear hcz23_0; try clear hcz23_1; try clear hcz23_2; try clear hcz23_3; try clear hcz25_0; try clear hcz25_1; try clear hcz25_2; try clear hcz25_3; try clear hcz27_0; try clear hcz27_1; try clear hcz27_2; try clear hcz27_3; try clear hcz29_0; try clear hcz29_1; try clear hcz29_2; try clear hcz29_3; try clear hcz5_0; try clear hcz5_1; try clear hcz5_2; try clear hcz5_3; try clear hcz7_0; try clear hcz7_1; try clear hcz7_2; try clear hcz7_3; try clear hcz9_0; try clear hcz9_1; try clear hcz9_2; try clear hcz9_3; try clear hfz11_0; try clear hfz11_1; try clear hfz11_2; try clear hfz11_3; try clear hfz13_0; try clear hfz13_1; try clear hfz13_2; try clear hfz13_3; try clear hfz14_0; try clear hfz14_1; try clear hfz14_2; try clear hfz14_3; try clear hfz18_0; try clear hfz18_1; try clear hfz18_2; try clear hfz18_3; try clear hfz19_0; try clear hfz19_1; try clear hfz19_2; try clear hfz19_3; try clear hfz23_0; try clear hfz23_1; try clear hfz23_2; try clear hfz23_3; try clear hfz25_0; try clear hfz25_1; try clear hfz25_2; try clear hfz25_3; try clear hfz27_0; try clear hfz27_1; try clear hfz27_2; try clear hfz27_3; try clear hfz29_0; try clear hfz29_1; try clear hfz29_2; try clear hfz29_3; try clear hfz5_0; try clear hfz5_1; try clear hfz5_2; try clear hfz5_3; try clear hfz7_0; try clear hfz7_1; try clear hfz7_2; try clear hfz7_3; try clear hfz9_0; try clear hfz9_1; try clear hfz9_2; try clear hfz9_3
         obtain ⟨kq, x60_21, rfl, HA, HJ21, BK269, HB⟩ := hcut
         cases kq with
         | zero => exact absurd HA.out (by simp [sandglassref09_Check.j2])
         | succ kj21 =>
          have H := HA.out
          clear HA
          simp only [sandglassref09_Check.j2] at H
          by_cases c30 : x60_21 = true
          ·subst c30
           rw [if_pos rfl] at H
           obtain rfl := Option.some.inj H
           go_wp2
           go_ret
           exact ⟨by first | (with_reducible rfl) | rfl | (simp [errW_none, errW_some] <;> rfl) | (simp [*, errW_none, errW_some] <;> rfl), bl HB⟩
          ·replace c30 := Bool.eq_false_iff.mpr c30
           subst c30
           rw [if_neg (show ¬ (false = true) by decide)] at H
           obtain rfl := Option.some.inj H
           go_wp2
           go_ret
           exact ⟨by first | (with_reducible rfl) | rfl | (simp [errW_none, errW_some] <;> rfl) | (simp [*, errW_none, errW_some] <;> rfl), bl HB⟩
       ·rw [if_neg c21] at H
        have c21b0 : (a0_0 == 3) = false := beq_eq_false_iff_ne.mpr c21
        have c21b1 : (a0_0 != 3) = true := bne_iff_ne.mpr c21
        by_cases c31 : a0_3 = 0
        ·rw [if_pos c31] at H
         have c31b0 : (a0_3 == 0) = true := beq_iff_eq.mpr c31
         have c31b1 : (a0_3 != 0) = false := bne_eq_false_iff_eq.mpr c31
         clear c31
         obtain rfl := Option.some.inj H
         obtain ⟨hcz32_0, hcz32_1, hcz32_2, hcz32_3⟩ := ce4 BK269
         obtain ⟨hfz32_0, hfz32_1, hfz32_2, hfz32_3⟩ := fr4 BK269
         go_wp2
         go_ret
         exact ⟨by first | (with_reducible rfl) | rfl | (simp [errW_none, errW_some] <;> rfl) | (simp [*, errW_none, errW_some] <;> rfl), bl HB⟩
        ·rw [if_neg c31] at H
         have c31b0 : (a0_3 == 0) = false := beq_eq_false_iff_ne.mpr c31
         have c31b1 : (a0_3 != 0) = true := bne_iff_ne.mpr c31
         obtain rfl := Option.some.inj H
         obtain ⟨hcz33_0, hcz33_1, hcz33_2, hcz33_3⟩ := ce4 BK269
         obtain ⟨hfz33_0, hfz33_1, hfz33_2, hfz33_3⟩ := fr4 BK269
         go_wp2
         go_ret
         exact ⟨by first | (with_reducible rfl) | rfl | (simp [errW_none, errW_some] <;> rfl) | (simp [*, errW_none, errW_some] <;> rfl), bl HB⟩

end Go.Proofs.Ytalcmlgkdkbbaaa.Q
