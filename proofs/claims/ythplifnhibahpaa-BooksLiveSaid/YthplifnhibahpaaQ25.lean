-- Laid by wip/tools/hprint.py, a program of this repo, over the kit's print; not a text of print.sh.
import Derived.Test.YthplifnhibahpaaQ0
import Derived.Test.YthplifnhibahpaaQ18
import Derived.Test.YthplifnhibahpaaQ19
namespace Go.Proofs.Ythplifnhibahpaa.Q
open Go.RowKit Go.Proofs.Ythplifnhibahpaa.Zip Go.Proofs.YthplifnhibahpaaW.PrintWords Go.Proofs.YthplifnhibahpaaW.PrintLast Go.Proofs.YthplifnhibahpaaW.PrintMore
attribute [local go_sem] max2_int min2_int max_two min_two max_three min_three max_four min_four   -- for this text's walks alone
set_option linter.unusedVariables false
set_option linter.unusedSimpArgs false

/-! ### sandglassref16_Set: function 20 -/
def sandglassref16_Set.j0 : Nat → List (S43) → Int → Bool → Int → Int → Int → Int → Option ((List (S43)) × Int × Int)
  | 0, _, _, _, _, _, _, _ => none
  | k + 1, x0, x1, x25, x244000, x244001, x244002, x244003 => if x25 = true then (some (x0, 0, 1)) else (if 0 ≤ x1 then (if x1 < (x0.length : Int) then (if ((rd_T43 x0 x1).f2) ≥ 1073741824 then (some (x0, 0, 4)) else ((some (([] : List (S43)) : List (S43))).bind fun y247 => (if y247.length + x0.length < 2932031007402 then ((some (y247 ++ x0 : List (S43))).bind fun y250 => (if x1 < (y250.length : Int) then ((some (y250.set (x1 : Int).toNat (⟨true, (⟨x244000, x244001, x244002, x244003⟩ : S25), wrap64 (((rd_T43 x0 x1).f2) + 1)⟩ : S43) : List (S43))).bind fun y254 => (some (y254, (rd_T43 y254 x1).f2, 0))) else (none))) else (none)))) else (none)) else (none))
def sandglassref16_Set.f (k : Nat) (l0 : List (S43)) (a1 : Int) (a2_0 : Int) (a2_1 : Int) (a2_2 : Int) (a2_3 : Int) : Option ((List (S43)) × Int × Int) := (sandglassref16_May.f k l0).bind fun t244 => (if t244 = true then (if a1 < 0 then (sandglassref16_Set.j0 k l0 a1 true a2_0 a2_1 a2_2 a2_3) else (if a1 ≥ 8 then (sandglassref16_Set.j0 k l0 a1 true a2_0 a2_1 a2_2 a2_3) else ((sandglassref09_Check.f k a2_0 a2_1 a2_2 a2_3).bind fun t245 => (sandglassref16_Set.j0 k l0 a1 (t245 != 0) a2_0 a2_1 a2_2 a2_3)))) else (sandglassref16_Set.j0 k l0 a1 true a2_0 a2_1 a2_2 a2_3))
theorem sandglassref16_Set.mono_l : ∀ k, (∀ y0 y1 y2 y3 y4 y5 y6, LeO (sandglassref16_Set.j0 k y0 y1 y2 y3 y4 y5 y6) (sandglassref16_Set.j0 (k + 1) y0 y1 y2 y3 y4 y5 y6))
  | 0 => fun _ _ _ _ _ _ _ r h => by simp [sandglassref16_Set.j0] at h
  | k + 1 => by
    have ih0 := sandglassref16_Set.mono_l k
    · intro y0 y1 y2 y3 y4 y5 y6
      unfold sandglassref16_Set.j0
      repeat' first
      | (with_reducible exact ih0 _ _ _ _ _ _ _)
      | (with_reducible exact sandglassref09_Check.mono _ _ _ _ _)
      | (with_reducible exact sandglassref16_May.mono _ _)
      | (with_reducible exact LeO.refl _)
      | (with_reducible exact LeO.none _)
      | (with_reducible refine LeO.ite ?_ ?_)
      | (with_reducible refine LeO.bind ?_ (fun _ => ?_))
      | exact ih0 _ _ _ _ _ _ _
      | exact sandglassref09_Check.mono _ _ _ _ _
      | exact sandglassref16_May.mono _ _
      | exact LeO.none _
      | refine LeO.ite ?_ ?_
      | refine LeO.bind ?_ (fun _ => ?_)
theorem sandglassref16_Set.mono : ∀ a0 a1 a2 a3 a4 a5 k, LeO (sandglassref16_Set.f k a0 a1 a2 a3 a4 a5) (sandglassref16_Set.f (k + 1) a0 a1 a2 a3 a4 a5) := by
  intro a0 a1 a2 a3 a4 a5 k
  have ih0 := sandglassref16_Set.mono_l k
  unfold sandglassref16_Set.f
  repeat' first
      | (with_reducible exact ih0 _ _ _ _ _ _ _)
      | (with_reducible exact sandglassref09_Check.mono _ _ _ _ _)
      | (with_reducible exact sandglassref16_May.mono _ _)
      | (with_reducible exact LeO.refl _)
      | (with_reducible exact LeO.none _)
      | (with_reducible refine LeO.ite ?_ ?_)
      | (with_reducible refine LeO.bind ?_ (fun _ => ?_))
      | exact ih0 _ _ _ _ _ _ _
      | exact sandglassref09_Check.mono _ _ _ _ _
      | exact sandglassref16_May.mono _ _
      | exact LeO.none _
      | refine LeO.ite ?_ ?_
      | refine LeO.bind ?_ (fun _ => ?_)
def sandglassref16_Set.T6 : Bool × List (List Nat × List Nat) := (true, [([], []), ([], []), ([], []), ([], []), ([], []), ([3, 4], [3, 4]), ([5], [5]), ([6], [6]), ([7], [7]), ([2, 8], [2, 8]), ([0, 1, 0, 1, 2, 3, 4, 5, 6, 7, 8, 9], [0, 1]), ([10, 9, 0, 1, 2, 3, 4, 5, 6, 7, 8, 9], [9, 10])])
def sandglassref16_Set.B6 : List Nat := [0, 0, 0, 0, 0, 24, 56, 120, 248, 508, 1023, 2047]
theorem sandglassref16_Set.tab6 : rtab .any (opsOf Try.f20 6) = sandglassref16_Set.T6 := by kernel_rfl
theorem sandglassref16_Set.bits6 : waitsOk sandglassref16_Set.T6.2 sandglassref16_Set.B6 = true := by kernel_rfl
def sandglassref16_Set.T7 : Bool × List (List Nat × List Nat) := (true, [([], []), ([], []), ([], []), ([1, 2], [1, 2]), ([3], [3]), ([4], [4]), ([0, 0], [0]), ([5, 6, 0, 1, 2, 3, 4, 5, 6], [5]), ([7, 0, 1, 2, 3, 4, 5, 6, 7], [])])
def sandglassref16_Set.B7 : List Nat := [0, 0, 0, 6, 14, 30, 1, 127, 255]
theorem sandglassref16_Set.tab7 : rtab .any (opsOf Try.f20 7) = sandglassref16_Set.T7 := by kernel_rfl
theorem sandglassref16_Set.bits7 : waitsOk sandglassref16_Set.T7.2 sandglassref16_Set.B7 = true := by kernel_rfl
set_option maxHeartbeats 8000000 in
set_option maxRecDepth 100000 in
theorem sandglassref16_Set.calls (k : Nat) (P0_ : Nat → Prop) (A0 : Option Addr) (c0 : Nat) (l0 : List (S43)) (a1 : Int) (a2_0 : Int) (a2_1 : Int) (a2_2 : Int) (a2_3 : Int) (r1 : List (S43)) (r2 : Int) (r3 : Int) (w : World) (hs0 : Kd.V k43 43 w w.heap.size (fun k_ => P0_ k_) (.slice A0 l0.length c0) l0) (h : sandglassref16_Set.f k l0 a1 a2_0 a2_1 a2_2 a2_3 = some (r1, r2, r3)) :
    Calls Try.prog 20 #[.slice A0 l0.length c0, .int .i64 a1, .agg #[.int .i64 a2_0, .int .i64 a2_1, .int .i64 a2_2, .int .i64 a2_3]] w fun e w' => ∃ v0_ : Value, e = .returned (.tuple #[v0_, .int .i64 r2, .int .i64 r3]) ∧ Kd.V k43 43 w' w.heap.size (fun k_ => (P0_ k_ ∨ w.heap.size ≤ k_)) v0_ r1 ∧ Below w.heap.size w w' := by
  have hu25 := Try.underlying25
  have hu43 := Try.underlying43
  have HO0 := Aside0.mk (show Kd.V k43 43 w w.heap.size (fun k_ => (P0_ k_ ∨ w.heap.size ≤ k_)) (.slice A0 l0.length c0) l0 from Kd.V_mono hs0 (fun k_ hk => .inl hk))
  have HB := Aside0.mk (Below.refl w.heap.size w)
  have H : ((sandglassref16_May.f k l0).bind fun t244 => (if t244 = true then (if a1 < 0 then (sandglassref16_Set.j0 k l0 a1 true a2_0 a2_1 a2_2 a2_3) else (if a1 ≥ 8 then (sandglassref16_Set.j0 k l0 a1 true a2_0 a2_1 a2_2 a2_3) else ((sandglassref09_Check.f k a2_0 a2_1 a2_2 a2_3).bind fun t245 => (sandglassref16_Set.j0 k l0 a1 (t245 != 0) a2_0 a2_1 a2_2 a2_3)))) else (sandglassref16_Set.j0 k l0 a1 true a2_0 a2_1 a2_2 a2_3))) = some (r1, r2, r3) := h
  clear h
  have HC4 := Aside0.mk H
  clear H
  go_enter Try.func20, Try.ntmps20
  go_upto_region 1 with (first | ((with_reducible refine gate_dst (N := 5) rfl ?_); refine box_event ?hg (N := 5) ?hd (cs := #[.int .i64 a2_0, .int .i64 a2_1, .int .i64 a2_2, .int .i64 a2_3]) (t := 25) ?hr ?_; (case hd => rfl); (case hg => rfl); (case hr => first | (go_simp; done) | (go_simp; rfl)); intro gb243 hg w5 hbox hb; have BK243 := Aside0.mk (hbox); have GW243 := Aside0.mk ((by rw [hg]; exact (below_size (bl HB)) : w.heap.size ≤ gb243)); have GE243 := Aside0.mk ((by rw [hg]; exact (below_size (bl HB)) : w.heap.size ≤ gb243)); replace HO0 := ve HO0 hg hb; replace HB := Aside0.mk (below_step (bl HB) hb); clear hb hbox hg))
  (try simp only [Act.put, List.setIfInBounds_toArray, List.set_cons_zero, List.set_cons_succ])
  go_cut [25] (fun v25 wc => ∃ (kq : Nat) (x25_3 : Bool), v25 = .bool x25_3 ∧ Aside0 (sandglassref16_Set.j0 kq l0 a1 x25_3 a2_0 a2_1 a2_2 a2_3 = some (r1, r2, r3)) ∧ Aside0 (kq ≤ k) ∧ Aside0 (Kd.V k43 43 wc w.heap.size (fun k_ => (P0_ k_ ∨ w.heap.size ≤ k_) ∧ k_ ≠ gb243) (.slice A0 l0.length c0) l0) ∧ Aside0 (wc.heap[gb243]? = some (.cells #[.int .i64 a2_0, .int .i64 a2_1, .int .i64 a2_2, .int .i64 a2_3] 25 (0, 0))) ∧ Aside0 (Below w.heap.size w wc))
  case first =>
    have H := HC4.out
    clear HC4
    replace H := Option.bind_eq_some_iff.mp H
    obtain ⟨t244, A60, H⟩ := H
    have A6 := Aside0.mk A60
    clear A60
    by_cases c7 : t244 = true
    · subst c7
      rw [if_pos rfl] at H
      by_cases c8 : a1 < 0
      · rw [if_pos c8] at H
        have c8b0 : decide (a1 < 0) = true := decide_eq_true c8
        clear c8
        (first | rw [c8b0] | (simp only [i64_w, i32_w]; rw [c8b0]) | skip)
        have H' := Aside0.mk H
        clear H
        go_wp2_with (first | ((with_reducible refine gate_callee (f := 12) rfl ?_); refine goesL_ (some 11) rfl rfl Try.func12 (by kernel_rfl) rfl #[.slice A0 l0.length c0] rfl (by (try simp only [List.map_toArray, List.map_cons, List.map_nil]); first | done | rfl | (simp only [List.length_drop, List.length_take]; rfl)) ?_; (with_reducible refine (sandglassref16_May.calls k _ _ l0 true _ ?side1 ?side2 A6.out).mono ?_); (case side1 => repeat (first | exact (Kd.V_reads' HO0.out).2.2 | (with_reducible refine Kd.C_alloc ?_ _) | (with_reducible refine Kd.C_drewN ?_ _) | (with_reducible refine Kd.C_drew ?_))); (case side2 => exact (Kd.V_reads' HO0.out).2.1); rintro e w9 ⟨rfl, hb⟩; refine ⟨_, rfl, ?_⟩; replace HO0 := vb HO0 hb; replace BK243 := Aside0.mk (blk_below (bo BK243) hb); replace HB := Aside0.mk (below_step (bl HB) hb); (try clear hb); (try clear hb2); (try clear hk); (try clear hi)))
        go_meet
        case rel => exact ⟨_, (true), (by first | (with_reducible rfl) | rfl | (simp; done) | (simp [*]; done)), H', ⟨by first | omega | exact Nat.le_refl _⟩, ⟨by (with_reducible repeat (first | apply Kd.V_alloc | apply Kd.V_drewN | apply Kd.V_drew)); exact HO0.out⟩, ⟨bo BK243⟩, ⟨bl HB⟩⟩
      · rw [if_neg c8] at H
        have c8b0 : decide (a1 < 0) = false := decide_eq_false c8
        clear c8
        (first | rw [c8b0] | (simp only [i64_w, i32_w]; rw [c8b0]) | skip)
        by_cases c10 : a1 ≥ 8
        · rw [if_pos c10] at H
          have c10b0 : decide (8 ≤ a1) = true := decide_eq_true c10
          clear c10
          have H' := Aside0.mk H
          clear H
          go_wp2_with (first | ((with_reducible refine gate_callee (f := 12) rfl ?_); refine goesL_ (some 11) rfl rfl Try.func12 (by kernel_rfl) rfl #[.slice A0 l0.length c0] rfl (by (try simp only [List.map_toArray, List.map_cons, List.map_nil]); first | done | rfl | (simp only [List.length_drop, List.length_take]; rfl)) ?_; (with_reducible refine (sandglassref16_May.calls k _ _ l0 true _ ?side1 ?side2 A6.out).mono ?_); (case side1 => repeat (first | exact (Kd.V_reads' HO0.out).2.2 | (with_reducible refine Kd.C_alloc ?_ _) | (with_reducible refine Kd.C_drewN ?_ _) | (with_reducible refine Kd.C_drew ?_))); (case side2 => exact (Kd.V_reads' HO0.out).2.1); rintro e w11 ⟨rfl, hb⟩; refine ⟨_, rfl, ?_⟩; replace HO0 := vb HO0 hb; replace BK243 := Aside0.mk (blk_below (bo BK243) hb); replace HB := Aside0.mk (below_step (bl HB) hb); (try clear hb); (try clear hb2); (try clear hk); (try clear hi)))
          go_meet
          case rel => exact ⟨_, (true), (by first | (with_reducible rfl) | rfl | (simp; done) | (simp [*]; done)), H', ⟨by first | omega | exact Nat.le_refl _⟩, ⟨by (with_reducible repeat (first | apply Kd.V_alloc | apply Kd.V_drewN | apply Kd.V_drew)); exact HO0.out⟩, ⟨bo BK243⟩, ⟨bl HB⟩⟩
        · rw [if_neg c10] at H
          have c10b0 : decide (8 ≤ a1) = false := decide_eq_false c10
          clear c10
          replace H := Option.bind_eq_some_iff.mp H
          obtain ⟨t245, A120, H⟩ := H
          have A12 := Aside0.mk A120
          clear A120
          have H' := Aside0.mk H
          clear H
          go_wp2_with (first | ((with_reducible refine gate_callee (f := 12) rfl ?_); refine goesL_ (some 11) rfl rfl Try.func12 (by kernel_rfl) rfl #[.slice A0 l0.length c0] rfl (by (try simp only [List.map_toArray, List.map_cons, List.map_nil]); first | done | rfl | (simp only [List.length_drop, List.length_take]; rfl)) ?_; (with_reducible refine (sandglassref16_May.calls k _ _ l0 true _ ?side1 ?side2 A6.out).mono ?_); (case side1 => repeat (first | exact (Kd.V_reads' HO0.out).2.2 | (with_reducible refine Kd.C_alloc ?_ _) | (with_reducible refine Kd.C_drewN ?_ _) | (with_reducible refine Kd.C_drew ?_))); (case side2 => exact (Kd.V_reads' HO0.out).2.1); rintro e w13 ⟨rfl, hb⟩; refine ⟨_, rfl, ?_⟩; replace HO0 := vb HO0 hb; replace BK243 := Aside0.mk (blk_below (bo BK243) hb); replace HB := Aside0.mk (below_step (bl HB) hb); (try clear hb); (try clear hb2); (try clear hk); (try clear hi); obtain ⟨hcz14_0, hcz14_1, hcz14_2, hcz14_3⟩ := ce4 BK243; obtain ⟨hfz14_0, hfz14_1, hfz14_2, hfz14_3⟩ := fr4 BK243) | (go_at_call 23; (with_reducible refine (sandglassref09_Check.calls k a2_0 a2_1 a2_2 a2_3 t245 _ A12.out).mono ?_); rintro e w15 ⟨rfl, hb⟩; replace HO0 := vb HO0 hb; replace BK243 := Aside0.mk (blk_below (bo BK243) hb); replace HB := Aside0.mk (below_step (bl HB) hb); (try clear hb); (try clear hb2); (try clear hk); (try clear hi)))
          go_meet
          case rel => exact ⟨_, ((t245 != 0)), (by first | (with_reducible rfl) | rfl | (simp; done) | (simp [*]; done)), H', ⟨by first | omega | exact Nat.le_refl _⟩, ⟨by (with_reducible repeat (first | apply Kd.V_alloc | apply Kd.V_drewN | apply Kd.V_drew)); exact HO0.out⟩, ⟨bo BK243⟩, ⟨bl HB⟩⟩
    · replace c7 := Bool.eq_false_iff.mpr c7
      subst c7
      rw [if_neg (show ¬ (false = true) by decide)] at H
      have H' := Aside0.mk H
      clear H
      go_wp2_with (first | ((with_reducible refine gate_callee (f := 12) rfl ?_); refine goesL_ (some 11) rfl rfl Try.func12 (by kernel_rfl) rfl #[.slice A0 l0.length c0] rfl (by (try simp only [List.map_toArray, List.map_cons, List.map_nil]); first | done | rfl | (simp only [List.length_drop, List.length_take]; rfl)) ?_; (with_reducible refine (sandglassref16_May.calls k _ _ l0 false _ ?side1 ?side2 A6.out).mono ?_); (case side1 => repeat (first | exact (Kd.V_reads' HO0.out).2.2 | (with_reducible refine Kd.C_alloc ?_ _) | (with_reducible refine Kd.C_drewN ?_ _) | (with_reducible refine Kd.C_drew ?_))); (case side2 => exact (Kd.V_reads' HO0.out).2.1); rintro e w16 ⟨rfl, hb⟩; refine ⟨_, rfl, ?_⟩; replace HO0 := vb HO0 hb; replace BK243 := Aside0.mk (blk_below (bo BK243) hb); replace HB := Aside0.mk (below_step (bl HB) hb); (try clear hb); (try clear hb2); (try clear hk); (try clear hi)))
      go_meet
      case rel => exact ⟨_, (true), (by first | (with_reducible rfl) | rfl | (simp; done) | (simp [*]; done)), H', ⟨by first | omega | exact Nat.le_refl _⟩, ⟨by (with_reducible repeat (first | apply Kd.V_alloc | apply Kd.V_drewN | apply Kd.V_drew)); exact HO0.out⟩, ⟨bo BK243⟩, ⟨bl HB⟩⟩
  case rest =>
    clear HC4
    try clear c1
    try clear c2
    try clear p2
    try clear c7
    try clear c8
    try clear c8b0
    try clear c10
    try clear c10b0
    try clear c12
    try clear hcz14_0
    try clear hcz14_1
    try clear hcz14_2
    try clear hcz14_3
    try clear hfz14_0
    try clear hfz14_1
    try clear hfz14_2
    try clear hfz14_3
    obtain ⟨kq, x25_3, rfl, HA, HJ3, HO_0, BK243, HB⟩ := hcut
    cases kq with
    | zero => exact absurd HA.out (by simp [sandglassref16_Set.j0])
    | succ kj3 =>
      have H := HA.out
      clear HA
      simp only [sandglassref16_Set.j0] at H
      by_cases c17 : x25_3 = true
      · subst c17
        rw [if_pos rfl] at H
        simp only [Option.some.injEq, Prod.mk.injEq] at H
        obtain ⟨rfl, rfl, rfl⟩ := H
        go_wp2
        go_ret3
        exact ⟨_, by first | (with_reducible rfl) | rfl | (simp [errW_none, errW_some] <;> rfl) | (simp [*, errW_none, errW_some] <;> rfl), by (with_reducible repeat (first | apply Kd.V_alloc | apply Kd.V_drewN | apply Kd.V_drew)); exact Kd.V_mono HO_0.out (fun _ hk => hk.1), bl HB⟩
      · replace c17 := Bool.eq_false_iff.mpr c17
        subst c17
        rw [if_neg (show ¬ (false = true) by decide)] at H
        by_cases c18 : 0 ≤ a1
        · rw [if_pos c18] at H
          have c18b0 : decide (0 ≤ a1) = true := decide_eq_true c18
          clear c18
          by_cases c19 : a1 < (l0.length : Int)
          · rw [if_pos c19] at H
            have c19b0 : decide (a1 < (l0.length : Int)) = true := decide_eq_true c19
            clear c19
            by_cases c20 : ((rd_T43 l0 a1).f2) ≥ 1073741824
            · rw [if_pos c20] at H
              have c20b0 : decide (1073741824 ≤ ((rd_T43 l0 a1).f2)) = true := decide_eq_true c20
              clear c20
              simp only [Option.some.injEq, Prod.mk.injEq] at H
              obtain ⟨rfl, rfl, rfl⟩ := H
              have p246 : 0 ≤ (a1 : Int) := of_decide_eq_true (by first | (with_reducible assumption) | assumption)
              have q246 : a1 < (l0.length : Int) := of_decide_eq_true (by first | (with_reducible assumption) | assumption)
              obtain ⟨ad246, e246, hx246_0, hx246_1, hx246_2, hx246_3, hx246_4, hx246_5⟩ := at_T43 (Kd.V_reads' HO_0.out).2.2 a1 p246 q246
              cases e246
              replace p246 := eq_true p246
              replace q246 := eq_true q246
              go_wp2
              go_ret3
              exact ⟨_, by first | (with_reducible rfl) | rfl | (simp [errW_none, errW_some] <;> rfl) | (simp [*, errW_none, errW_some] <;> rfl), by (with_reducible repeat (first | apply Kd.V_alloc | apply Kd.V_drewN | apply Kd.V_drew)); exact Kd.V_mono HO_0.out (fun _ hk => hk.1), bl HB⟩
            · rw [if_neg c20] at H
              have c20b0 : decide (1073741824 ≤ ((rd_T43 l0 a1).f2)) = false := decide_eq_false c20
              clear c20
              obtain ⟨y247, hy247⟩ : ∃ y_ : List (S43), y_ = (([] : List (S43))) := ⟨_, rfl⟩
              replace H : (if y247.length + l0.length < 2932031007402 then ((some (y247 ++ l0 : List (S43))).bind fun y250 => (if a1 < (y250.length : Int) then ((some (y250.set (a1 : Int).toNat (⟨true, (⟨a2_0, a2_1, a2_2, a2_3⟩ : S25), wrap64 (((rd_T43 l0 a1).f2) + 1)⟩ : S43) : List (S43))).bind fun y254 => (some (y254, (rd_T43 y254 a1).f2, 0))) else (none))) else (none)) = some (r1, r2, r3) := by first | (rw [hy247]; with_reducible exact H) | (have H2_ := (Option.bind_some _ _).symm.trans H; rw [hy247]; with_reducible exact H2_) | (have H2_ := (Option.bind_some _ _).symm.trans H; with_reducible exact H2_) | with_reducible exact H | (rw [hy247]; exact H) | exact H
              have Ny247 := Aside0.mk hy247
              clear hy247
              by_cases c21 : y247.length + l0.length < 2932031007402
              · rw [if_pos c21] at H
                have LMc21 := Aside0.mk c21
                clear c21
                obtain ⟨y250, hy250⟩ : ∃ y_ : List (S43), y_ = (y247 ++ l0) := ⟨_, rfl⟩
                replace H : (if a1 < (y250.length : Int) then ((some (y250.set (a1 : Int).toNat (⟨true, (⟨a2_0, a2_1, a2_2, a2_3⟩ : S25), wrap64 (((rd_T43 l0 a1).f2) + 1)⟩ : S43) : List (S43))).bind fun y254 => (some (y254, (rd_T43 y254 a1).f2, 0))) else (none)) = some (r1, r2, r3) := by first | (rw [hy250]; with_reducible exact H) | (have H2_ := (Option.bind_some _ _).symm.trans H; rw [hy250]; with_reducible exact H2_) | (have H2_ := (Option.bind_some _ _).symm.trans H; with_reducible exact H2_) | with_reducible exact H | (rw [hy250]; exact H) | exact H
                have Ny250 := Aside0.mk hy250
                clear hy250
                by_cases c22 : a1 < (y250.length : Int)
                · rw [if_pos c22] at H
                  have c22b0 : decide (a1 < (y250.length : Int)) = true := decide_eq_true c22
                  clear c22
                  obtain ⟨y254, hy254⟩ : ∃ y_ : List (S43), y_ = (y250.set (a1 : Int).toNat (⟨true, (⟨a2_0, a2_1, a2_2, a2_3⟩ : S25), wrap64 (((rd_T43 l0 a1).f2) + 1)⟩ : S43)) := ⟨_, rfl⟩
                  replace H : (some (y254, (rd_T43 y254 a1).f2, 0)) = some (r1, r2, r3) := by first | (rw [hy254]; with_reducible exact H) | (have H2_ := (Option.bind_some _ _).symm.trans H; rw [hy254]; with_reducible exact H2_) | (have H2_ := (Option.bind_some _ _).symm.trans H; with_reducible exact H2_) | with_reducible exact H | (rw [hy254]; exact H) | exact H
                  have Ny254 := Aside0.mk hy254
                  clear hy254
                  simp only [Option.some.injEq, Prod.mk.injEq] at H
                  obtain ⟨rfl, rfl, rfl⟩ := H
                  have p246 : 0 ≤ (a1 : Int) := of_decide_eq_true (by first | (with_reducible assumption) | assumption)
                  have q246 : a1 < (l0.length : Int) := of_decide_eq_true (by first | (with_reducible assumption) | assumption)
                  obtain ⟨ad246, e246, hx246_0, hx246_1, hx246_2, hx246_3, hx246_4, hx246_5⟩ := at_T43 (Kd.V_reads' HO_0.out).2.2 a1 p246 q246
                  cases e246
                  replace p246 := eq_true p246
                  replace q246 := eq_true q246
                  try go_wp2_with (first | ((with_reducible refine gate_dst (N := 34) rfl ?_); refine Kd.R_lit k43 _ 43 ?hg (N := 34) ?hd (xs := ([] : List (S43))) (inner := []) (ok := fun _ => True) (okp := fun _ => True) ?hr ?hp (fun _ hk => hk) trivial (Below.refl _ _) (Nat.le_refl _) (by simp) ?_; (case hd => rfl); (case hg => rfl); (case hr => first | (go_simp; done) | (go_simp; rfl)); (case hp => exact (Reps.none _ _)); intro v248 w24 ho25 hb hg_ hnew_; clear hg_ hnew_; (first | rw [← Ny247.out] at ho25 | (simp only [Int.reduceToNat] at ho25; rw [← Ny247.out] at ho25)); have HO249 := Aside0.mk (Kd.R_lower (Kd.R_newM (M := fun k_ => (w.heap.size ≤ k_)) ho25 (below_size (bl HB)) (fun k_ h_ => h_)) (below_size (bl HB))); replace HO_0 := Aside0.mk (Kd.V_elder' (by (with_reducible repeat (first | apply Kd.V_alloc | apply Kd.V_drewN | apply Kd.V_drew)); exact HO_0.out) (Kd.R_base ho25) hb); replace BK243 := Aside0.mk (blk_below (bo BK243) hb); replace HB := Aside0.mk (below_step (bl HB) hb); clear hb ho25) | ((with_reducible refine gate_builtin (b := .append) (xs := #[.tmp 34, .tmp 35]) rfl ?_); at_builtin; refine Kd.R_append_rows k43 (w0 := w) w.heap.size rfl (.tmp 34) (.tmp 35) 22 43 (.agg #[(.bool false), (.int .i64 0), (.int .i64 0), (.int .i64 0), (.int .i64 0), (.int .i64 0)]) 48 rfl Try.underlying22 info43 rfl (by decide) (by omega) v248 y247 l0 _ _ _ (fun k_ => (w.heap.size ≤ k_)) (fun _ => False) rfl rfl ?aO ?aR (fun _ _ h => h) (fun _ h => h.elim) ?aF ?aB ?aS ?aL ?_; (case aR => repeat (first | exact (Kd.V_reads' HO_0.out).2.2 | (with_reducible refine Kd.C_alloc ?_ _) | (with_reducible refine Kd.C_drewN ?_ _) | (with_reducible refine Kd.C_drew ?_))); (case aB => exact (bl HB)); (case aF => exact (fun k_ hk => (Nat.le_trans (below_size (bl HB)) hk))); (case aO => exact (by (with_reducible repeat (first | apply Kd.R_alloc | apply Kd.R_drewN | apply Kd.R_drew)); exact Kd.R_mono HO249.out (fun _ hk => hk.1))); (case aS => exact (below_size (bl HB))); (case aL => have := LMc21.out; omega); intro v251 w26 ho hb hg hat; rw [← Ny250.out] at ho; have HO252 := Aside0.mk (ho); replace HO_0 := Aside0.mk (Kd.V_afterv (ok := (fun k_ => (P0_ k_ ∨ w.heap.size ≤ k_) ∧ k_ ≠ gb243)) (by (with_reducible repeat (first | apply Kd.V_alloc | apply Kd.V_drewN | apply Kd.V_drew)); exact HO_0.out) hg hat); replace BK243 := Aside0.mk (blk_grown (g := gb243) (o := .cells #[.int .i64 a2_0, .int .i64 a2_1, .int .i64 a2_2, .int .i64 a2_3] 25 (0, 0)) (bo BK243) hg (Kd.R_ne HO249.out BK243.out (by decide))); replace HB := Aside0.mk (hb); clear HO249; clear ho hb hg hat))
                  replace HO_0 := Aside0.mk (Kd.V_drew HO_0.out)
                  replace HO252 := Aside0.mk (Kd.R_drew HO252.out)
                  replace BK243 := Aside0.mk (blk_drew BK243.out)
                  replace HB := Aside0.mk (below_drew1 HB.out)
                  have p253 : 0 ≤ (a1 : Int) := of_decide_eq_true (by first | (with_reducible assumption) | assumption)
                  have q253 : a1 < (l0.length : Int) := of_decide_eq_true (by first | (with_reducible assumption) | assumption)
                  obtain ⟨ad253, e253, hx253_0, hx253_1, hx253_2, hx253_3, hx253_4, hx253_5⟩ := at_T43 (Kd.V_reads' HO_0.out).2.2 a1 p253 q253
                  obtain rfl : ad246 = ad253 := (by injection e253)
                  replace p253 := eq_true p253
                  replace q253 := eq_true q253
                  have p23 : 0 ≤ (a1 : Int) := of_decide_eq_true (by first | (with_reducible assumption) | assumption)
                  have q23 : (a1 : Int) < ((y250.length : Int) : Int) := of_decide_eq_true (by first | (with_reducible assumption) | assumption)
                  obtain ⟨go23, co23, eo23, gb23, gl23, cl23, HG23⟩ := Kd.R_form HO252.out (by omega)
                  (first | cases eo23 | (injection eo23 with ea_ en_ ec_; (first | subst ea_ | (injection ea_ with ea_; subst ea_)); subst ec_; clear en_))
                  have GB23 := Aside0.mk gb23
                  have GG23 := Aside0.mk HG23
                  clear gb23 gl23 HG23
                  obtain ⟨ce23, hcl23, hM23, hcc23, hfr23⟩ := Kd.R_elem HO252.out z43 (a1 : Int) p23 q23
                  obtain rfl := k43_openM hM23
                  have hx23_0 : World.cell? _ ⟨go23, (a1 : Int).toNat * 6, none⟩ = some (.bool ((rd_T43 y250 a1).f0)) := hcc23 0 _ rfl
                  have hx23_1 : World.cell? _ ⟨go23, (a1 : Int).toNat * 6 + 1, none⟩ = some (.int .i64 ((rd_T43 y250 a1).f1.f0)) := hcc23 1 _ rfl
                  have hx23_2 : World.cell? _ ⟨go23, (a1 : Int).toNat * 6 + 2, none⟩ = some (.int .i64 ((rd_T43 y250 a1).f1.f1)) := hcc23 2 _ rfl
                  have hx23_3 : World.cell? _ ⟨go23, (a1 : Int).toNat * 6 + 3, none⟩ = some (.int .i64 ((rd_T43 y250 a1).f1.f2)) := hcc23 3 _ rfl
                  have hx23_4 : World.cell? _ ⟨go23, (a1 : Int).toNat * 6 + 4, none⟩ = some (.int .i64 ((rd_T43 y250 a1).f1.f3)) := hcc23 4 _ rfl
                  have hx23_5 : World.cell? _ ⟨go23, (a1 : Int).toNat * 6 + 5, none⟩ = some (.int .i64 ((rd_T43 y250 a1).f2)) := hcc23 5 _ rfl
                  have hf23_0 : World.frozen? _ ⟨go23, (a1 : Int).toNat * 6, none⟩ = false := hfr23 0
                  have hf23_1 : World.frozen? _ ⟨go23, (a1 : Int).toNat * 6 + 1, none⟩ = false := hfr23 1
                  have hf23_2 : World.frozen? _ ⟨go23, (a1 : Int).toNat * 6 + 2, none⟩ = false := hfr23 2
                  have hf23_3 : World.frozen? _ ⟨go23, (a1 : Int).toNat * 6 + 3, none⟩ = false := hfr23 3
                  have hf23_4 : World.frozen? _ ⟨go23, (a1 : Int).toNat * 6 + 4, none⟩ = false := hfr23 4
                  have hf23_5 : World.frozen? _ ⟨go23, (a1 : Int).toNat * 6 + 5, none⟩ = false := hfr23 5
                  clear hcl23 hcc23 hfr23 hM23
                  replace p23 := eq_true p23
                  replace q23 := eq_true q23
                  obtain ⟨ce28, hcl28, hM28, hcc28, hfr28⟩ := Kd.R_elem HO252.out z43 (a1 : Int) (of_decide_eq_true (by first | (with_reducible assumption) | assumption)) (by have h_ : (a1 : Int) < ((y250.length : Int) : Int) := of_decide_eq_true (by first | (with_reducible assumption) | assumption); first | exact h_ | (have e_ := (Kd.R_reads' HO252.out).1; omega) | simpa using h_)
                  obtain rfl := k43_openM hM28
                  have HP28 := (Kd.R_seg HO252.out (a1 : Int) (of_decide_eq_true (by first | (with_reducible assumption) | assumption)) (by have h_ : (a1 : Int) < ((y250.length : Int) : Int) := of_decide_eq_true (by first | (with_reducible assumption) | assumption); first | exact h_ | (have e_ := (Kd.R_reads' HO252.out).1; omega) | simpa using h_) (seg := [.bool true, .int .i64 a2_0, .int .i64 a2_1, .int .i64 a2_2, .int .i64 a2_3, .int .i64 (wrap64 (((rd_T43 l0 a1).f2) + 1))]) (j := 0) hcl28 hcc28 (show 6 ≤ 6 from by decide) (x' := (⟨true, (⟨a2_0, a2_1, a2_2, a2_3⟩ : S25), wrap64 (((rd_T43 l0 a1).f2) + 1)⟩ : S43)) (k43_mkM _ _ _ (⟨true, (⟨a2_0, a2_1, a2_2, a2_3⟩ : S25), wrap64 (((rd_T43 l0 a1).f2) + 1)⟩ : S43) ) (fun _ hk => hk)).1
                  rw [← Ny254.out] at HP28
                  have HQ28 := Aside0.mk HP28
                  clear hcl28 hcc28 hfr28 hM28 HP28
                  refine start_ (n := 12) (S := fun w' => w'.cell? ⟨gb243, 0, none⟩ = some (.int .i64 a2_0) ∧ w'.cell? ⟨gb243, 1, none⟩ = some (.int .i64 a2_1) ∧ w'.cell? ⟨gb243, 2, none⟩ = some (.int .i64 a2_2) ∧ w'.cell? ⟨gb243, 3, none⟩ = some (.int .i64 a2_3) ∧ w'.cell? (ad246.add ((a1).toNat * 6)) = some (.bool ((rd_T43 l0 a1).f0)) ∧ w'.cell? ⟨(ad246.add ((a1).toNat * 6)).block, (ad246.add ((a1).toNat * 6)).off + 1, none⟩ = some (.int .i64 ((rd_T43 l0 a1).f1.f0)) ∧ w'.cell? ⟨(ad246.add ((a1).toNat * 6)).block, (ad246.add ((a1).toNat * 6)).off + 2, none⟩ = some (.int .i64 ((rd_T43 l0 a1).f1.f1)) ∧ w'.cell? ⟨(ad246.add ((a1).toNat * 6)).block, (ad246.add ((a1).toNat * 6)).off + 3, none⟩ = some (.int .i64 ((rd_T43 l0 a1).f1.f2)) ∧ w'.cell? ⟨(ad246.add ((a1).toNat * 6)).block, (ad246.add ((a1).toNat * 6)).off + 4, none⟩ = some (.int .i64 ((rd_T43 l0 a1).f1.f3)) ∧ w'.cell? ⟨(ad246.add ((a1).toNat * 6)).block, (ad246.add ((a1).toNat * 6)).off + 5, none⟩ = some (.int .i64 ((rd_T43 l0 a1).f2))) (ds := [11]) #[false, false, false, false, false, false, false, false, false, false, false, false] (by kernel_rfl) rfl rfl ⟨(blk_cell BK243.out 0).trans rfl, (blk_cell BK243.out 1).trans rfl, (blk_cell BK243.out 2).trans rfl, (blk_cell BK243.out 3).trans rfl, hx253_0, hx253_1, hx253_2, hx253_3, hx253_4, hx253_5⟩ (fun hHeld => ?_); refine with_tabW sandglassref16_Set.tab6 sandglassref16_Set.bits6 (fun HT_ HW_ => ?_)
                  generalize w26.drew = w27 at HO_0 HO252 BK243 HB GG23 HQ28 hf23_0 hf23_1 hf23_2 hf23_3 hf23_4 hf23_5 hx23_0 hx23_1 hx23_2 hx23_3 hx23_4 hx23_5 hx253_0 hx253_1 hx253_2 hx253_3 hx253_4 hx253_5 hHeld ⊢
                  refine pureA 0 37 HT_ ?_
                  refine pureA 1 38 HT_ ?_
                  refine pureA 3 40 HT_ ?_
                  refine pureA 4 41 HT_ ?_
                  refine pureA 5 42 HT_ ?_
                  refine pureA 6 43 HT_ ?_
                  refine takeA 2 39 HT_ HW_ hHeld ?_
                  refine takeA 7 44 HT_ HW_ hHeld ?_
                  refine pureA 8 45 HT_ ?_
                  refine pureA 9 46 HT_ ?_
                  refine pureA 10 47 HT_ ?_
                  refine last_ (i := 11) (N := none) #[true, true, true, true, true, true, true, true, true, true, true, true] rfl rfl (one_of HT_.out (by kernel_rfl)) (by decide) (fun K hK => ?_)
                  refine skip_ (w1 := ?_) (by rfl) rfl ?_ ?_
                  rotate_left
                  · go_simp
                    rfl
                  refine hK.out _ _ ?_
                  clear hK K
                  refine done_ (done_of HT_.out (by kernel_rfl)) ?_
                  try go_wp2
                  have n0_ : Aside0 (Kd.V k43 43 ((((((w27.setCell ⟨go23, (a1 : Int).toNat * 6, none⟩ (.bool true)).setCell ⟨go23, (a1 : Int).toNat * 6 + 1, none⟩ (.int .i64 a2_0)).setCell ⟨go23, (a1 : Int).toNat * 6 + 2, none⟩ (.int .i64 a2_1)).setCell ⟨go23, (a1 : Int).toNat * 6 + 3, none⟩ (.int .i64 a2_2)).setCell ⟨go23, (a1 : Int).toNat * 6 + 4, none⟩ (.int .i64 a2_3)).setCell ⟨go23, (a1 : Int).toNat * 6 + 5, none⟩ (.int .i64 (wrap64 (((rd_T43 l0 a1).f2) + 1)))) w.heap.size (fun k_ => (P0_ k_ ∨ w.heap.size ≤ k_) ∧ some k_ ≠ (.slice (some ⟨go23, 0, none⟩) y250.length co23 : Value).ownBlock ∧ k_ ≠ gb243) (.slice (some ad246) l0.length c0) l0) := ⟨by (with_reducible repeat (first | apply Kd.V_alloc | apply Kd.V_drewN | apply Kd.V_drew)); exact Kd.V_mono (Kd.V_far (p := ⟨go23, (a1 : Int).toNat * 6 + 5, none⟩) (Kd.V_far (p := ⟨go23, (a1 : Int).toNat * 6 + 4, none⟩) (Kd.V_far (p := ⟨go23, (a1 : Int).toNat * 6 + 3, none⟩) (Kd.V_far (p := ⟨go23, (a1 : Int).toNat * 6 + 2, none⟩) (Kd.V_far (p := ⟨go23, (a1 : Int).toNat * 6 + 1, none⟩) (Kd.V_far (p := ⟨go23, (a1 : Int).toNat * 6, none⟩) (Kd.V_mono HO_0.out (fun k_ hk => (⟨hk, fun e_ => hk.2 (by rw [e_]; rfl)⟩ : _ ∧ k_ ≠ go23))) (fun _ hk => hk.2) (.bool true)) (fun _ hk => hk.2) (.int .i64 a2_0)) (fun _ hk => hk.2) (.int .i64 a2_1)) (fun _ hk => hk.2) (.int .i64 a2_2)) (fun _ hk => hk.2) (.int .i64 a2_3)) (fun _ hk => hk.2) (.int .i64 (wrap64 (((rd_T43 l0 a1).f2) + 1)))) (fun _ hk => ⟨hk.1.1.1, ⟨hk.1.2, hk.1.1.2⟩⟩)⟩
                  have n1_ : Aside0 (Kd.R k43 43 ((((((w27.setCell ⟨go23, (a1 : Int).toNat * 6, none⟩ (.bool true)).setCell ⟨go23, (a1 : Int).toNat * 6 + 1, none⟩ (.int .i64 a2_0)).setCell ⟨go23, (a1 : Int).toNat * 6 + 2, none⟩ (.int .i64 a2_1)).setCell ⟨go23, (a1 : Int).toNat * 6 + 3, none⟩ (.int .i64 a2_2)).setCell ⟨go23, (a1 : Int).toNat * 6 + 4, none⟩ (.int .i64 a2_3)).setCell ⟨go23, (a1 : Int).toNat * 6 + 5, none⟩ (.int .i64 (wrap64 (((rd_T43 l0 a1).f2) + 1)))) w.heap.size (fun k_ => (w.heap.size ≤ k_)) (.slice (some ⟨go23, 0, none⟩) y250.length co23) y254) := ⟨by (with_reducible repeat (first | apply Kd.R_alloc | apply Kd.R_drewN | apply Kd.R_drew)); exact HQ28.out⟩
                  have n2_ : Aside0 (((((((w27.setCell ⟨go23, (a1 : Int).toNat * 6, none⟩ (.bool true)).setCell ⟨go23, (a1 : Int).toNat * 6 + 1, none⟩ (.int .i64 a2_0)).setCell ⟨go23, (a1 : Int).toNat * 6 + 2, none⟩ (.int .i64 a2_1)).setCell ⟨go23, (a1 : Int).toNat * 6 + 3, none⟩ (.int .i64 a2_2)).setCell ⟨go23, (a1 : Int).toNat * 6 + 4, none⟩ (.int .i64 a2_3)).setCell ⟨go23, (a1 : Int).toNat * 6 + 5, none⟩ (.int .i64 (wrap64 (((rd_T43 l0 a1).f2) + 1)))).heap[gb243]? = some (.cells #[.int .i64 a2_0, .int .i64 a2_1, .int .i64 a2_2, .int .i64 a2_3] 25 (0, 0))) := ⟨by (with_reducible repeat (first | refine blk_drewN ?_ _ | refine blk_drew ?_ | refine blk_alloc ?_ _)); refine blk_far ?_ (by have h_ := Kd.R_ne HO252.out BK243.out (by decide); intro e_; exact h_ (by rw [e_]; rfl)) _; (with_reducible repeat (first | refine blk_drewN ?_ _ | refine blk_drew ?_ | refine blk_alloc ?_ _)); refine blk_far ?_ (by have h_ := Kd.R_ne HO252.out BK243.out (by decide); intro e_; exact h_ (by rw [e_]; rfl)) _; (with_reducible repeat (first | refine blk_drewN ?_ _ | refine blk_drew ?_ | refine blk_alloc ?_ _)); refine blk_far ?_ (by have h_ := Kd.R_ne HO252.out BK243.out (by decide); intro e_; exact h_ (by rw [e_]; rfl)) _; (with_reducible repeat (first | refine blk_drewN ?_ _ | refine blk_drew ?_ | refine blk_alloc ?_ _)); refine blk_far ?_ (by have h_ := Kd.R_ne HO252.out BK243.out (by decide); intro e_; exact h_ (by rw [e_]; rfl)) _; (with_reducible repeat (first | refine blk_drewN ?_ _ | refine blk_drew ?_ | refine blk_alloc ?_ _)); refine blk_far ?_ (by have h_ := Kd.R_ne HO252.out BK243.out (by decide); intro e_; exact h_ (by rw [e_]; rfl)) _; (with_reducible repeat (first | refine blk_drewN ?_ _ | refine blk_drew ?_ | refine blk_alloc ?_ _)); refine blk_far ?_ (by have h_ := Kd.R_ne HO252.out BK243.out (by decide); intro e_; exact h_ (by rw [e_]; rfl)) _; (with_reducible repeat (first | refine blk_drewN ?_ _ | refine blk_drew ?_ | refine blk_alloc ?_ _)); exact BK243.out⟩
                  have n3_ : Aside0 (Below w.heap.size w ((((((w27.setCell ⟨go23, (a1 : Int).toNat * 6, none⟩ (.bool true)).setCell ⟨go23, (a1 : Int).toNat * 6 + 1, none⟩ (.int .i64 a2_0)).setCell ⟨go23, (a1 : Int).toNat * 6 + 2, none⟩ (.int .i64 a2_1)).setCell ⟨go23, (a1 : Int).toNat * 6 + 3, none⟩ (.int .i64 a2_2)).setCell ⟨go23, (a1 : Int).toNat * 6 + 4, none⟩ (.int .i64 a2_3)).setCell ⟨go23, (a1 : Int).toNat * 6 + 5, none⟩ (.int .i64 (wrap64 (((rd_T43 l0 a1).f2) + 1))))) := ⟨bl HB⟩
                  (try clear HO_0)
                  (try clear HO252)
                  (try clear BK243)
                  (try clear HB)
                  generalize ((((((w27.setCell ⟨go23, (a1 : Int).toNat * 6, none⟩ (.bool true)).setCell ⟨go23, (a1 : Int).toNat * 6 + 1, none⟩ (.int .i64 a2_0)).setCell ⟨go23, (a1 : Int).toNat * 6 + 2, none⟩ (.int .i64 a2_1)).setCell ⟨go23, (a1 : Int).toNat * 6 + 3, none⟩ (.int .i64 a2_2)).setCell ⟨go23, (a1 : Int).toNat * 6 + 4, none⟩ (.int .i64 a2_3)).setCell ⟨go23, (a1 : Int).toNat * 6 + 5, none⟩ (.int .i64 (wrap64 (((rd_T43 l0 a1).f2) + 1)))) = w29 at n0_ n1_ n2_ n3_ ⊢
                  have HO_0 := n0_
                  have HO252 := n1_
                  have BK243 := n2_
                  have HB := n3_
                  clear n0_ n1_ n2_ n3_
                  replace HO_0 := Aside0.mk (Kd.V_drew HO_0.out)
                  replace HO252 := Aside0.mk (Kd.R_drew HO252.out)
                  replace BK243 := Aside0.mk (blk_drew BK243.out)
                  replace HB := Aside0.mk (below_drew1 HB.out)
                  have p255 : 0 ≤ (a1 : Int) := of_decide_eq_true (by first | (with_reducible assumption) | assumption)
                  have q255 : a1 < (y254.length : Int) := (by have h_ : (a1 : Int) < ((y250.length : Int) : Int) := of_decide_eq_true (by first | (with_reducible assumption) | assumption); first | (have e_ := (Kd.R_reads' HO252.out).1; omega) | simpa only [Ny254.out, List.length_set] using h_)
                  have ql255 : ((a1 : Int) < ((y250.length : Int) : Int)) = True := eq_true (of_decide_eq_true (by first | (with_reducible assumption) | assumption))
                  obtain ⟨ad255, e255, hx255_0, hx255_1, hx255_2, hx255_3, hx255_4, hx255_5⟩ := at_T43 (Kd.R_reads' HO252.out).2.2 a1 p255 q255
                  obtain rfl : (⟨go23, 0, none⟩ : Addr) = ad255 := (by injection e255)
                  (first | simp only [add_plain] at hx255_0 | simp only [add_at] at hx255_0 | simp only [Addr.add, Nat.zero_add] at hx255_0 | skip)
                  (first | simp only [add_plain] at hx255_1 | simp only [add_at] at hx255_1 | simp only [Addr.add, Nat.zero_add] at hx255_1 | skip)
                  (first | simp only [add_plain] at hx255_2 | simp only [add_at] at hx255_2 | simp only [Addr.add, Nat.zero_add] at hx255_2 | skip)
                  (first | simp only [add_plain] at hx255_3 | simp only [add_at] at hx255_3 | simp only [Addr.add, Nat.zero_add] at hx255_3 | skip)
                  (first | simp only [add_plain] at hx255_4 | simp only [add_at] at hx255_4 | simp only [Addr.add, Nat.zero_add] at hx255_4 | skip)
                  (first | simp only [add_plain] at hx255_5 | simp only [add_at] at hx255_5 | simp only [Addr.add, Nat.zero_add] at hx255_5 | skip)
                  replace p255 := eq_true p255
                  replace q255 := eq_true q255
                  refine start_ (n := 9) (S := fun w' => w'.cell? ⟨go23, (a1).toNat * 6, none⟩ = some (.bool ((rd_T43 y254 a1).f0)) ∧ w'.cell? ⟨go23, (a1).toNat * 6 + 1, none⟩ = some (.int .i64 ((rd_T43 y254 a1).f1.f0)) ∧ w'.cell? ⟨go23, (a1).toNat * 6 + 2, none⟩ = some (.int .i64 ((rd_T43 y254 a1).f1.f1)) ∧ w'.cell? ⟨go23, (a1).toNat * 6 + 3, none⟩ = some (.int .i64 ((rd_T43 y254 a1).f1.f2)) ∧ w'.cell? ⟨go23, (a1).toNat * 6 + 4, none⟩ = some (.int .i64 ((rd_T43 y254 a1).f1.f3)) ∧ w'.cell? ⟨go23, (a1).toNat * 6 + 5, none⟩ = some (.int .i64 ((rd_T43 y254 a1).f2))) (ds := []) #[false, false, false, false, false, false, false, false, false] (by kernel_rfl) rfl rfl ⟨hx255_0, hx255_1, hx255_2, hx255_3, hx255_4, hx255_5⟩ (fun hHeld => ?_); refine with_tabW sandglassref16_Set.tab7 sandglassref16_Set.bits7 (fun HT_ HW_ => ?_)
                  generalize w29.drew = w30 at HO_0 HO252 BK243 HB HQ28 hx255_0 hx255_1 hx255_2 hx255_3 hx255_4 hx255_5 hHeld ⊢
                  refine pureA 0 48 HT_ ?_
                  refine pureA 1 49 HT_ ?_
                  refine pureA 2 50 HT_ ?_
                  refine pureA 3 51 HT_ ?_
                  refine pureA 4 52 HT_ ?_
                  refine pureA 6 6 HT_ ?_
                  refine takeA 5 53 HT_ HW_ hHeld ?_
                  refine pureA 7 7 HT_ ?_
                  refine pureA 8 8 HT_ ?_
                  refine done_ (done_of HT_.out (by kernel_rfl)) ?_
                  try go_wp2
                  go_ret3
                  exact ⟨_, by first | (with_reducible rfl) | rfl | (simp [errW_none, errW_some] <;> rfl) | (simp [*, errW_none, errW_some] <;> rfl), Kd.V_mono (Kd.R_V (by (with_reducible repeat (first | apply Kd.R_alloc | apply Kd.R_drewN | apply Kd.R_drew)); exact HO252.out)) (fun k_ hk => by first | exact ⟨(.inr (hk.1)), hk.2⟩ | exact (.inr (hk))), bl HB⟩
                · rw [if_neg c22] at H
                  exact absurd H (by simp)
              · rw [if_neg c21] at H
                exact absurd H (by simp)
          · rw [if_neg c19] at H
            exact absurd H (by simp)
        · rw [if_neg c18] at H
          exact absurd H (by simp)

end Go.Proofs.Ythplifnhibahpaa.Q
