-- Laid by wip/tools/hprint.py, a program of this repo, over the kit's print; not a text of print.sh.
import Derived.Test.YthplifnhibahpaaQ0
import Derived.Test.YthplifnhibahpaaQ1
import Derived.Test.YthplifnhibahpaaQ18
namespace Go.Proofs.Ythplifnhibahpaa.Q
open Go.RowKit Go.Proofs.Ythplifnhibahpaa.Zip Go.Proofs.YthplifnhibahpaaW.PrintWords Go.Proofs.YthplifnhibahpaaW.PrintLast Go.Proofs.YthplifnhibahpaaW.PrintMore
attribute [local go_sem] max2_int min2_int max_two min_two max_three min_three max_four min_four   -- for this text's walks alone
set_option linter.unusedVariables false
set_option linter.unusedSimpArgs false

attribute [local go_sem high] eqA25
/-! ### sandglassref16_May: function 12 -/
mutual
def sandglassref16_May.l0 : Nat → List (S43) → Int → Option (Bool)
  | 0, _, _ => none
  | k + 1, x0, x3 => if x3 < (x0.length : Int) then (if 0 ≤ x3 then (if ((rd_T43 x0 x3).f2) < 0 then (sandglassref16_May.j1 k x0 x3 true) else (sandglassref16_May.j1 k x0 x3 (decide (((rd_T43 x0 x3).f2) > 1073741824)))) else (none)) else (some true)
def sandglassref16_May.j1 : Nat → List (S43) → Int → Bool → Option (Bool)
  | 0, _, _, _ => none
  | k + 1, x0, x3, x26 => if x26 = true then (some false) else (if 0 ≤ x3 then (if x3 < (x0.length : Int) then (if (rd_T43 x0 x3).f0 = true then ((sandglassref09_Check.f k ((rd_T43 x0 x3).f1.f0) ((rd_T43 x0 x3).f1.f1) ((rd_T43 x0 x3).f1.f2) ((rd_T43 x0 x3).f1.f3)).bind fun t193 => (if t193 = 0 then (sandglassref16_May.j2 k x0 x3 (decide (((rd_T43 x0 x3).f2) < 1))) else (sandglassref16_May.j2 k x0 x3 true))) else (sandglassref16_May.j2 k x0 x3 false)) else (none)) else (none))
def sandglassref16_May.j2 : Nat → List (S43) → Int → Bool → Option (Bool)
  | 0, _, _, _ => none
  | k + 1, x0, x3, x48 => if x48 = true then (some false) else (if 0 ≤ x3 then (if x3 < (x0.length : Int) then (if ((rd_T43 x0 x3).f0 = true) then (sandglassref16_May.j3 k x0 x3 false) else (sandglassref16_May.j3 k x0 x3 (!(((rd_T43 x0 x3).f1.f0) == 0) || (!(((rd_T43 x0 x3).f1.f1) == 0) || (!(((rd_T43 x0 x3).f1.f2) == 0) || (!(((rd_T43 x0 x3).f1.f3) == 0))))))) else (none)) else (none))
def sandglassref16_May.j3 : Nat → List (S43) → Int → Bool → Option (Bool)
  | 0, _, _, _ => none
  | k + 1, x0, x3, x63 => if x63 = true then (some false) else (sandglassref16_May.l0 k x0 (wrap64 (x3 + 1)))
end
def sandglassref16_May.f (k : Nat) (l0 : List (S43)) : Option (Bool) := if (l0.length : Int) = 8 then (sandglassref16_May.l0 k l0 0) else (some false)
theorem sandglassref16_May.mono_l : ∀ k, (∀ y0 y1, LeO (sandglassref16_May.l0 k y0 y1) (sandglassref16_May.l0 (k + 1) y0 y1)) ∧ (∀ y0 y1 y2, LeO (sandglassref16_May.j1 k y0 y1 y2) (sandglassref16_May.j1 (k + 1) y0 y1 y2)) ∧ (∀ y0 y1 y2, LeO (sandglassref16_May.j2 k y0 y1 y2) (sandglassref16_May.j2 (k + 1) y0 y1 y2)) ∧ (∀ y0 y1 y2, LeO (sandglassref16_May.j3 k y0 y1 y2) (sandglassref16_May.j3 (k + 1) y0 y1 y2))
  | 0 => ⟨fun _ _ r h => by simp [sandglassref16_May.l0] at h, fun _ _ _ r h => by simp [sandglassref16_May.j1] at h, fun _ _ _ r h => by simp [sandglassref16_May.j2] at h, fun _ _ _ r h => by simp [sandglassref16_May.j3] at h⟩
  | k + 1 => by
    obtain ⟨ih0, ih1, ih2, ih3⟩ := sandglassref16_May.mono_l k
    refine ⟨?_, ?_, ?_, ?_⟩
    · intro y0 y1
      unfold sandglassref16_May.l0
      repeat' first
      | (with_reducible exact ih0 _ _)
      | (with_reducible exact ih1 _ _ _)
      | (with_reducible exact ih2 _ _ _)
      | (with_reducible exact ih3 _ _ _)
      | (with_reducible exact sandglassref09_Check.mono _ _ _ _ _)
      | (with_reducible exact LeO.refl _)
      | (with_reducible exact LeO.none _)
      | (with_reducible refine LeO.ite ?_ ?_)
      | (with_reducible refine LeO.bind ?_ (fun _ => ?_))
      | exact ih0 _ _
      | exact ih1 _ _ _
      | exact ih2 _ _ _
      | exact ih3 _ _ _
      | exact sandglassref09_Check.mono _ _ _ _ _
      | exact LeO.none _
      | refine LeO.ite ?_ ?_
      | refine LeO.bind ?_ (fun _ => ?_)
    · intro y0 y1 y2
      unfold sandglassref16_May.j1
      repeat' first
      | (with_reducible exact ih0 _ _)
      | (with_reducible exact ih1 _ _ _)
      | (with_reducible exact ih2 _ _ _)
      | (with_reducible exact ih3 _ _ _)
      | (with_reducible exact sandglassref09_Check.mono _ _ _ _ _)
      | (with_reducible exact LeO.refl _)
      | (with_reducible exact LeO.none _)
      | (with_reducible refine LeO.ite ?_ ?_)
      | (with_reducible refine LeO.bind ?_ (fun _ => ?_))
      | exact ih0 _ _
      | exact ih1 _ _ _
      | exact ih2 _ _ _
      | exact ih3 _ _ _
      | exact sandglassref09_Check.mono _ _ _ _ _
      | exact LeO.none _
      | refine LeO.ite ?_ ?_
      | refine LeO.bind ?_ (fun _ => ?_)
    · intro y0 y1 y2
      unfold sandglassref16_May.j2
      repeat' first
      | (with_reducible exact ih0 _ _)
      | (with_reducible exact ih1 _ _ _)
      | (with_reducible exact ih2 _ _ _)
      | (with_reducible exact ih3 _ _ _)
      | (with_reducible exact sandglassref09_Check.mono _ _ _ _ _)
      | (with_reducible exact LeO.refl _)
      | (with_reducible exact LeO.none _)
      | (with_reducible refine LeO.ite ?_ ?_)
      | (with_reducible refine LeO.bind ?_ (fun _ => ?_))
      | exact ih0 _ _
      | exact ih1 _ _ _
      | exact ih2 _ _ _
      | exact ih3 _ _ _
      | exact sandglassref09_Check.mono _ _ _ _ _
      | exact LeO.none _
      | refine LeO.ite ?_ ?_
      | refine LeO.bind ?_ (fun _ => ?_)
    · intro y0 y1 y2
      unfold sandglassref16_May.j3
      repeat' first
      | (with_reducible exact ih0 _ _)
      | (with_reducible exact ih1 _ _ _)
      | (with_reducible exact ih2 _ _ _)
      | (with_reducible exact ih3 _ _ _)
      | (with_reducible exact sandglassref09_Check.mono _ _ _ _ _)
      | (with_reducible exact LeO.refl _)
      | (with_reducible exact LeO.none _)
      | (with_reducible refine LeO.ite ?_ ?_)
      | (with_reducible refine LeO.bind ?_ (fun _ => ?_))
      | exact ih0 _ _
      | exact ih1 _ _ _
      | exact ih2 _ _ _
      | exact ih3 _ _ _
      | exact sandglassref09_Check.mono _ _ _ _ _
      | exact LeO.none _
      | refine LeO.ite ?_ ?_
      | refine LeO.bind ?_ (fun _ => ?_)
theorem sandglassref16_May.mono : ∀ a0 k, LeO (sandglassref16_May.f k a0) (sandglassref16_May.f (k + 1) a0) := by
  intro a0 k
  obtain ⟨ih0, ih1, ih2, ih3⟩ := sandglassref16_May.mono_l k
  unfold sandglassref16_May.f
  repeat' first
      | (with_reducible exact ih0 _ _)
      | (with_reducible exact ih1 _ _ _)
      | (with_reducible exact ih2 _ _ _)
      | (with_reducible exact ih3 _ _ _)
      | (with_reducible exact sandglassref09_Check.mono _ _ _ _ _)
      | (with_reducible exact LeO.refl _)
      | (with_reducible exact LeO.none _)
      | (with_reducible refine LeO.ite ?_ ?_)
      | (with_reducible refine LeO.bind ?_ (fun _ => ?_))
      | exact ih0 _ _
      | exact ih1 _ _ _
      | exact ih2 _ _ _
      | exact ih3 _ _ _
      | exact sandglassref09_Check.mono _ _ _ _ _
      | exact LeO.none _
      | refine LeO.ite ?_ ?_
      | refine LeO.bind ?_ (fun _ => ?_)
set_option maxHeartbeats 8000000 in
set_option maxRecDepth 100000 in
theorem sandglassref16_May.calls (k : Nat) (A0 : Option Addr) (c0 : Nat) (l0 : List (S43)) (r : Bool) (w : World) (hr0 : Kd.C k43 w A0 l0.length l0) (hc0 : l0.length ≤ c0) (h : sandglassref16_May.f k l0 = some r) :
    Calls Try.prog 12 #[.slice A0 l0.length c0] w fun e w' => e = .returned (.bool r) ∧ Below w.heap.size w w' := by
  have hu25 := Try.underlying25
  have HR0 := Aside0.mk hr0
  have HC0 := Aside0.mk hc0
  clear hr0 hc0
  have HB := Aside0.mk (Below.refl w.heap.size w)
  have H : (if (l0.length : Int) = 8 then (sandglassref16_May.l0 k l0 0) else (some false)) = some r := h
  clear h
  by_cases c2 : (l0.length : Int) = 8
  · rw [if_pos c2] at H
    have c2b0 : ((l0.length : Int) == 8) = true := beq_iff_eq.mpr c2
    have c2b1 : ((l0.length : Int) != 8) = false := bne_eq_false_iff_eq.mpr c2
    clear c2
    have H' := Aside0.mk H
    clear H
    go_enter Try.func12, Try.ntmps12
    go_wp2
    go_loopg [3] k (fun kq v3 w' => ∃ (x3_1 : Int), v3 = .int .i64 x3_1 ∧ Aside0 (sandglassref16_May.l0 kq l0 x3_1 = some r) ∧ Aside0 (kq ≤ k) ∧ Aside0 (Below w.heap.size w w'))
    case atStart => exact ⟨(0), (by first | (with_reducible rfl) | rfl | (simp; done) | (simp [*]; done)), H', ⟨Nat.le_refl _⟩, ⟨bl HB⟩⟩
    case round =>
      clear H'
      try clear c1
      try clear c2
      try clear c2b0
      try clear c2b1
      try clear p2
      obtain ⟨x3_1, rfl, HA, HK1, HB⟩ := hrel
      cases gk with
      | zero => exact absurd HA.out (by simp [sandglassref16_May.l0])
      | succ k1 =>
        have H := HA.out
        clear HA
        simp only [sandglassref16_May.l0] at H
        by_cases c3 : x3_1 < (l0.length : Int)
        · rw [if_pos c3] at H
          have c3b0 : decide (x3_1 < (l0.length : Int)) = true := decide_eq_true c3
          clear c3
          have HC4 := Aside0.mk H
          clear H
          go_upto_region 6 with (fail)
          go_cut [26] (fun v26 wc => ∃ (kq : Nat) (x26_3 : Bool), v26 = .bool x26_3 ∧ Aside0 (sandglassref16_May.j1 kq l0 x3_1 x26_3 = some r) ∧ Aside0 (kq ≤ k1) ∧ Aside0 (Below w.heap.size w wc))
          case first =>
            have H := HC4.out
            clear HC4
            by_cases c5 : 0 ≤ x3_1
            · rw [if_pos c5] at H
              have c5b0 : decide (0 ≤ x3_1) = true := decide_eq_true c5
              clear c5
              (first | rw [c5b0] | (simp only [i64_w, i32_w]; rw [c5b0]) | skip)
              by_cases c6 : ((rd_T43 l0 x3_1).f2) < 0
              · rw [if_pos c6] at H
                have c6b0 : decide (((rd_T43 l0 x3_1).f2) < 0) = true := decide_eq_true c6
                clear c6
                have H' := Aside0.mk H
                clear H
                have p189 : 0 ≤ (x3_1 : Int) := of_decide_eq_true (by first | (with_reducible assumption) | assumption)
                have q189 : x3_1 < (l0.length : Int) := of_decide_eq_true (by first | (with_reducible assumption) | assumption)
                obtain ⟨ad189, e189, hx189_0, hx189_1, hx189_2, hx189_3, hx189_4, hx189_5⟩ := at_T43 HR0.out x3_1 p189 q189
                cases e189
                replace hx189_0 := (HB.out.cell (World.block_lt_of_cell? w _ hx189_0)).trans hx189_0
                replace hx189_1 := (HB.out.cell (World.block_lt_of_cell? w _ hx189_1)).trans hx189_1
                replace hx189_2 := (HB.out.cell (World.block_lt_of_cell? w _ hx189_2)).trans hx189_2
                replace hx189_3 := (HB.out.cell (World.block_lt_of_cell? w _ hx189_3)).trans hx189_3
                replace hx189_4 := (HB.out.cell (World.block_lt_of_cell? w _ hx189_4)).trans hx189_4
                replace hx189_5 := (HB.out.cell (World.block_lt_of_cell? w _ hx189_5)).trans hx189_5
                replace p189 := eq_true p189
                replace q189 := eq_true q189
                go_wp2
                go_meet
                case rel => exact ⟨_, (true), (by first | (with_reducible rfl) | rfl | (simp; done) | (simp [*]; done)), H', ⟨by have := HK1.out; first | omega | exact Nat.le_refl _⟩, ⟨bl HB⟩⟩
              · rw [if_neg c6] at H
                have c6b0 : decide (((rd_T43 l0 x3_1).f2) < 0) = false := decide_eq_false c6
                clear c6
                have H' := Aside0.mk H
                clear H
                have p189 : 0 ≤ (x3_1 : Int) := of_decide_eq_true (by first | (with_reducible assumption) | assumption)
                have q189 : x3_1 < (l0.length : Int) := of_decide_eq_true (by first | (with_reducible assumption) | assumption)
                obtain ⟨ad189, e189, hx189_0, hx189_1, hx189_2, hx189_3, hx189_4, hx189_5⟩ := at_T43 HR0.out x3_1 p189 q189
                cases e189
                replace hx189_0 := (HB.out.cell (World.block_lt_of_cell? w _ hx189_0)).trans hx189_0
                replace hx189_1 := (HB.out.cell (World.block_lt_of_cell? w _ hx189_1)).trans hx189_1
                replace hx189_2 := (HB.out.cell (World.block_lt_of_cell? w _ hx189_2)).trans hx189_2
                replace hx189_3 := (HB.out.cell (World.block_lt_of_cell? w _ hx189_3)).trans hx189_3
                replace hx189_4 := (HB.out.cell (World.block_lt_of_cell? w _ hx189_4)).trans hx189_4
                replace hx189_5 := (HB.out.cell (World.block_lt_of_cell? w _ hx189_5)).trans hx189_5
                replace p189 := eq_true p189
                replace q189 := eq_true q189
                have p190 : 0 ≤ (x3_1 : Int) := of_decide_eq_true (by first | (with_reducible assumption) | assumption)
                have q190 : x3_1 < (l0.length : Int) := of_decide_eq_true (by first | (with_reducible assumption) | assumption)
                obtain ⟨ad190, e190, hx190_0, hx190_1, hx190_2, hx190_3, hx190_4, hx190_5⟩ := at_T43 HR0.out x3_1 p190 q190
                obtain rfl : ad189 = ad190 := (by injection e190)
                replace hx190_0 := (HB.out.cell (World.block_lt_of_cell? w _ hx190_0)).trans hx190_0
                replace hx190_1 := (HB.out.cell (World.block_lt_of_cell? w _ hx190_1)).trans hx190_1
                replace hx190_2 := (HB.out.cell (World.block_lt_of_cell? w _ hx190_2)).trans hx190_2
                replace hx190_3 := (HB.out.cell (World.block_lt_of_cell? w _ hx190_3)).trans hx190_3
                replace hx190_4 := (HB.out.cell (World.block_lt_of_cell? w _ hx190_4)).trans hx190_4
                replace hx190_5 := (HB.out.cell (World.block_lt_of_cell? w _ hx190_5)).trans hx190_5
                replace p190 := eq_true p190
                replace q190 := eq_true q190
                go_wp2
                go_meet
                case rel => exact ⟨_, (decide (((rd_T43 l0 x3_1).f2) > 1073741824)), (by first | (with_reducible rfl) | rfl | (simp; done) | (simp [*]; done)), H', ⟨by have := HK1.out; first | omega | exact Nat.le_refl _⟩, ⟨bl HB⟩⟩
            · rw [if_neg c5] at H
              exact absurd H (by simp)
          case rest =>
            clear HC4
            try clear c1
            try clear p1
            try clear q1
            try clear hx1
            try clear c2
            try clear c2b0
            try clear c2b1
            try clear p2
            try clear c3
            try clear c3b0
            try clear c5
            try clear c5b0
            try clear c6
            try clear c6b0
            try clear hx189_0
            try clear hx189_1
            try clear hx189_2
            try clear hx189_3
            try clear hx189_4
            try clear hx189_5
            try clear hx190_0
            try clear hx190_1
            try clear hx190_2
            try clear hx190_3
            try clear hx190_4
            try clear hx190_5
            try clear p189
            try clear p190
            try clear p2
            try clear q189
            try clear q190
            obtain ⟨kq, x26_3, rfl, HA, HJ3, HB⟩ := hcut
            cases kq with
            | zero => exact absurd HA.out (by simp [sandglassref16_May.j1])
            | succ kj3 =>
              have H := HA.out
              clear HA
              simp only [sandglassref16_May.j1] at H
              by_cases c7 : x26_3 = true
              · subst c7
                rw [if_pos rfl] at H
                obtain rfl := Option.some.inj H
                go_wp2
                go_ret
                exact ⟨by first | (with_reducible rfl) | rfl | (simp [errW_none, errW_some] <;> rfl) | (simp [*, errW_none, errW_some] <;> rfl), bl HB⟩
              · replace c7 := Bool.eq_false_iff.mpr c7
                subst c7
                rw [if_neg (show ¬ (false = true) by decide)] at H
                have HC8 := Aside0.mk H
                clear H
                go_upto_region 8 with (fail)
                go_cut [48] (fun v48 wc => ∃ (kq : Nat) (x48_7 : Bool), v48 = .bool x48_7 ∧ Aside0 (sandglassref16_May.j2 kq l0 x3_1 x48_7 = some r) ∧ Aside0 (kq ≤ kj3) ∧ Aside0 (Below w.heap.size w wc))
                case first =>
                  have H := HC8.out
                  clear HC8
                  by_cases c9 : 0 ≤ x3_1
                  · rw [if_pos c9] at H
                    have c9b0 : decide (0 ≤ x3_1) = true := decide_eq_true c9
                    clear c9
                    (first | rw [c9b0] | (simp only [i64_w, i32_w]; rw [c9b0]) | skip)
                    by_cases c10 : x3_1 < (l0.length : Int)
                    · rw [if_pos c10] at H
                      have c10b0 : decide (x3_1 < (l0.length : Int)) = true := decide_eq_true c10
                      clear c10
                      obtain ⟨bq11, hbq11⟩ : ∃ b_ : Bool, b_ = ((rd_T43 l0 x3_1).f0) := ⟨_, rfl⟩
                      replace H : (if bq11 = true then ((sandglassref09_Check.f kj3 ((rd_T43 l0 x3_1).f1.f0) ((rd_T43 l0 x3_1).f1.f1) ((rd_T43 l0 x3_1).f1.f2) ((rd_T43 l0 x3_1).f1.f3)).bind fun t193 => (if t193 = 0 then (sandglassref16_May.j2 kj3 l0 x3_1 (decide (((rd_T43 l0 x3_1).f2) < 1))) else (sandglassref16_May.j2 kj3 l0 x3_1 true))) else (sandglassref16_May.j2 kj3 l0 x3_1 false)) = some r := by rw [← hbq11] at H; exact H
                      have Nbq11 := Aside0.mk hbq11
                      clear hbq11
                      by_cases c12 : bq11 = true
                      · subst c12
                        rw [if_pos rfl] at H
                        replace H := Option.bind_eq_some_iff.mp H
                        obtain ⟨t193, A130, H⟩ := H
                        have A13 := Aside0.mk A130
                        clear A130
                        by_cases c14 : t193 = 0
                        · rw [if_pos c14] at H
                          have c14b0 : (t193 == 0) = true := beq_iff_eq.mpr c14
                          have c14b1 : (t193 != 0) = false := bne_eq_false_iff_eq.mpr c14
                          clear c14
                          have H' := Aside0.mk H
                          clear H
                          have p191 : 0 ≤ (x3_1 : Int) := of_decide_eq_true (by first | (with_reducible assumption) | assumption)
                          have q191 : x3_1 < (l0.length : Int) := of_decide_eq_true (by first | (with_reducible assumption) | assumption)
                          obtain ⟨ad191, e191, hx191_0, hx191_1, hx191_2, hx191_3, hx191_4, hx191_5⟩ := at_T43 HR0.out x3_1 p191 q191
                          (try rw [← Nbq11.out] at hx191_0)
                          cases e191
                          replace hx191_0 := (HB.out.cell (World.block_lt_of_cell? w _ hx191_0)).trans hx191_0
                          replace hx191_1 := (HB.out.cell (World.block_lt_of_cell? w _ hx191_1)).trans hx191_1
                          replace hx191_2 := (HB.out.cell (World.block_lt_of_cell? w _ hx191_2)).trans hx191_2
                          replace hx191_3 := (HB.out.cell (World.block_lt_of_cell? w _ hx191_3)).trans hx191_3
                          replace hx191_4 := (HB.out.cell (World.block_lt_of_cell? w _ hx191_4)).trans hx191_4
                          replace hx191_5 := (HB.out.cell (World.block_lt_of_cell? w _ hx191_5)).trans hx191_5
                          replace p191 := eq_true p191
                          replace q191 := eq_true q191
                          have p192 : 0 ≤ (x3_1 : Int) := of_decide_eq_true (by first | (with_reducible assumption) | assumption)
                          have q192 : x3_1 < (l0.length : Int) := of_decide_eq_true (by first | (with_reducible assumption) | assumption)
                          obtain ⟨ad192, e192, hx192_0, hx192_1, hx192_2, hx192_3, hx192_4, hx192_5⟩ := at_T43 HR0.out x3_1 p192 q192
                          (try rw [← Nbq11.out] at hx192_0)
                          obtain rfl : ad191 = ad192 := (by injection e192)
                          replace hx192_0 := (HB.out.cell (World.block_lt_of_cell? w _ hx192_0)).trans hx192_0
                          replace hx192_1 := (HB.out.cell (World.block_lt_of_cell? w _ hx192_1)).trans hx192_1
                          replace hx192_2 := (HB.out.cell (World.block_lt_of_cell? w _ hx192_2)).trans hx192_2
                          replace hx192_3 := (HB.out.cell (World.block_lt_of_cell? w _ hx192_3)).trans hx192_3
                          replace hx192_4 := (HB.out.cell (World.block_lt_of_cell? w _ hx192_4)).trans hx192_4
                          replace hx192_5 := (HB.out.cell (World.block_lt_of_cell? w _ hx192_5)).trans hx192_5
                          replace p192 := eq_true p192
                          replace q192 := eq_true q192
                          go_wp2_with (first | (go_at_call 23; (with_reducible refine (sandglassref09_Check.calls kj3 ((rd_T43 l0 x3_1).f1.f0) ((rd_T43 l0 x3_1).f1.f1) ((rd_T43 l0 x3_1).f1.f2) ((rd_T43 l0 x3_1).f1.f3) t193 _ A13.out).mono ?_); rintro e w15 ⟨rfl, hb⟩; replace HB := Aside0.mk (below_step (bl HB) hb); (try clear hb); (try clear hb2); (try clear hk); (try clear hi); have p194 : 0 ≤ (x3_1 : Int) := of_decide_eq_true (by first | (with_reducible assumption) | assumption); have q194 : x3_1 < (l0.length : Int) := of_decide_eq_true (by first | (with_reducible assumption) | assumption); obtain ⟨ad194, e194, hx194_0, hx194_1, hx194_2, hx194_3, hx194_4, hx194_5⟩ := at_T43 HR0.out x3_1 p194 q194; (try rw [← Nbq11.out] at hx194_0); obtain rfl : ad191 = ad194 := (by injection e194); replace hx194_0 := (HB.out.cell (World.block_lt_of_cell? w _ hx194_0)).trans hx194_0; replace hx194_1 := (HB.out.cell (World.block_lt_of_cell? w _ hx194_1)).trans hx194_1; replace hx194_2 := (HB.out.cell (World.block_lt_of_cell? w _ hx194_2)).trans hx194_2; replace hx194_3 := (HB.out.cell (World.block_lt_of_cell? w _ hx194_3)).trans hx194_3; replace hx194_4 := (HB.out.cell (World.block_lt_of_cell? w _ hx194_4)).trans hx194_4; replace hx194_5 := (HB.out.cell (World.block_lt_of_cell? w _ hx194_5)).trans hx194_5; replace p194 := eq_true p194; replace q194 := eq_true q194))
                          go_meet
                          case rel => exact ⟨_, (decide (((rd_T43 l0 x3_1).f2) < 1)), (by first | (with_reducible rfl) | rfl | (simp; done) | (simp [*]; done)), H', ⟨by have := HK1.out; have := HJ3.out; first | omega | exact Nat.le_refl _⟩, ⟨bl HB⟩⟩
                        · rw [if_neg c14] at H
                          have c14b0 : (t193 == 0) = false := beq_eq_false_iff_ne.mpr c14
                          have c14b1 : (t193 != 0) = true := bne_iff_ne.mpr c14
                          have H' := Aside0.mk H
                          clear H
                          have p191 : 0 ≤ (x3_1 : Int) := of_decide_eq_true (by first | (with_reducible assumption) | assumption)
                          have q191 : x3_1 < (l0.length : Int) := of_decide_eq_true (by first | (with_reducible assumption) | assumption)
                          obtain ⟨ad191, e191, hx191_0, hx191_1, hx191_2, hx191_3, hx191_4, hx191_5⟩ := at_T43 HR0.out x3_1 p191 q191
                          (try rw [← Nbq11.out] at hx191_0)
                          cases e191
                          replace hx191_0 := (HB.out.cell (World.block_lt_of_cell? w _ hx191_0)).trans hx191_0
                          replace hx191_1 := (HB.out.cell (World.block_lt_of_cell? w _ hx191_1)).trans hx191_1
                          replace hx191_2 := (HB.out.cell (World.block_lt_of_cell? w _ hx191_2)).trans hx191_2
                          replace hx191_3 := (HB.out.cell (World.block_lt_of_cell? w _ hx191_3)).trans hx191_3
                          replace hx191_4 := (HB.out.cell (World.block_lt_of_cell? w _ hx191_4)).trans hx191_4
                          replace hx191_5 := (HB.out.cell (World.block_lt_of_cell? w _ hx191_5)).trans hx191_5
                          replace p191 := eq_true p191
                          replace q191 := eq_true q191
                          have p192 : 0 ≤ (x3_1 : Int) := of_decide_eq_true (by first | (with_reducible assumption) | assumption)
                          have q192 : x3_1 < (l0.length : Int) := of_decide_eq_true (by first | (with_reducible assumption) | assumption)
                          obtain ⟨ad192, e192, hx192_0, hx192_1, hx192_2, hx192_3, hx192_4, hx192_5⟩ := at_T43 HR0.out x3_1 p192 q192
                          (try rw [← Nbq11.out] at hx192_0)
                          obtain rfl : ad191 = ad192 := (by injection e192)
                          replace hx192_0 := (HB.out.cell (World.block_lt_of_cell? w _ hx192_0)).trans hx192_0
                          replace hx192_1 := (HB.out.cell (World.block_lt_of_cell? w _ hx192_1)).trans hx192_1
                          replace hx192_2 := (HB.out.cell (World.block_lt_of_cell? w _ hx192_2)).trans hx192_2
                          replace hx192_3 := (HB.out.cell (World.block_lt_of_cell? w _ hx192_3)).trans hx192_3
                          replace hx192_4 := (HB.out.cell (World.block_lt_of_cell? w _ hx192_4)).trans hx192_4
                          replace hx192_5 := (HB.out.cell (World.block_lt_of_cell? w _ hx192_5)).trans hx192_5
                          replace p192 := eq_true p192
                          replace q192 := eq_true q192
                          go_wp2_with (first | (go_at_call 23; (with_reducible refine (sandglassref09_Check.calls kj3 ((rd_T43 l0 x3_1).f1.f0) ((rd_T43 l0 x3_1).f1.f1) ((rd_T43 l0 x3_1).f1.f2) ((rd_T43 l0 x3_1).f1.f3) t193 _ A13.out).mono ?_); rintro e w16 ⟨rfl, hb⟩; replace HB := Aside0.mk (below_step (bl HB) hb); (try clear hb); (try clear hb2); (try clear hk); (try clear hi)))
                          go_meet
                          case rel => exact ⟨_, (true), (by first | (with_reducible rfl) | rfl | (simp; done) | (simp [*]; done)), H', ⟨by have := HK1.out; have := HJ3.out; first | omega | exact Nat.le_refl _⟩, ⟨bl HB⟩⟩
                      · replace c12 := Bool.eq_false_iff.mpr c12
                        subst c12
                        rw [if_neg (show ¬ (false = true) by decide)] at H
                        have H' := Aside0.mk H
                        clear H
                        have p191 : 0 ≤ (x3_1 : Int) := of_decide_eq_true (by first | (with_reducible assumption) | assumption)
                        have q191 : x3_1 < (l0.length : Int) := of_decide_eq_true (by first | (with_reducible assumption) | assumption)
                        obtain ⟨ad191, e191, hx191_0, hx191_1, hx191_2, hx191_3, hx191_4, hx191_5⟩ := at_T43 HR0.out x3_1 p191 q191
                        (try rw [← Nbq11.out] at hx191_0)
                        cases e191
                        replace hx191_0 := (HB.out.cell (World.block_lt_of_cell? w _ hx191_0)).trans hx191_0
                        replace hx191_1 := (HB.out.cell (World.block_lt_of_cell? w _ hx191_1)).trans hx191_1
                        replace hx191_2 := (HB.out.cell (World.block_lt_of_cell? w _ hx191_2)).trans hx191_2
                        replace hx191_3 := (HB.out.cell (World.block_lt_of_cell? w _ hx191_3)).trans hx191_3
                        replace hx191_4 := (HB.out.cell (World.block_lt_of_cell? w _ hx191_4)).trans hx191_4
                        replace hx191_5 := (HB.out.cell (World.block_lt_of_cell? w _ hx191_5)).trans hx191_5
                        replace p191 := eq_true p191
                        replace q191 := eq_true q191
                        go_wp2
                        go_meet
                        case rel => exact ⟨_, (false), (by first | (with_reducible rfl) | rfl | (simp; done) | (simp [*]; done)), H', ⟨by have := HK1.out; have := HJ3.out; first | omega | exact Nat.le_refl _⟩, ⟨bl HB⟩⟩
                    · rw [if_neg c10] at H
                      exact absurd H (by simp)
                  · rw [if_neg c9] at H
                    exact absurd H (by simp)
                case rest =>
                  clear HC8
                  try clear c1
                  try clear p1
                  try clear q1
                  try clear hx1
                  try clear c2
                  try clear c2b0
                  try clear c2b1
                  try clear p2
                  try clear c3
                  try clear c3b0
                  try clear c5
                  try clear c5b0
                  try clear c6
                  try clear c6b0
                  try clear c7
                  try clear c9
                  try clear c9b0
                  try clear c10
                  try clear c10b0
                  try clear q11
                  try clear c12
                  try clear c14
                  try clear c14b0
                  try clear c14b1
                  try clear hx189_0
                  try clear hx189_1
                  try clear hx189_2
                  try clear hx189_3
                  try clear hx189_4
                  try clear hx189_5
                  try clear hx190_0
                  try clear hx190_1
                  try clear hx190_2
                  try clear hx190_3
                  try clear hx190_4
                  try clear hx190_5
                  try clear hx191_0
                  try clear hx191_1
                  try clear hx191_2
                  try clear hx191_3
                  try clear hx191_4
                  try clear hx191_5
                  try clear hx192_0
                  try clear hx192_1
                  try clear hx192_2
                  try clear hx192_3
                  try clear hx192_4
                  try clear hx192_5
                  try clear hx194_0
                  try clear hx194_1
                  try clear hx194_2
                  try clear hx194_3
                  try clear hx194_4
                  try clear hx194_5
                  try clear p1
                  try clear p189
                  try clear p190
                  try clear p191
                  try clear p192
                  try clear p194
                  try clear p2
                  try clear q1
                  try clear q189
                  try clear q190
                  try clear q191
                  try clear q192
                  try clear q194
                  obtain ⟨kq, x48_7, rfl, HA, HJ7, HB⟩ := hcut
                  cases kq with
                  | zero => exact absurd HA.out (by simp [sandglassref16_May.j2])
                  | succ kj7 =>
                    have H := HA.out
                    clear HA
                    simp only [sandglassref16_May.j2] at H
                    by_cases c17 : x48_7 = true
                    · subst c17
                      rw [if_pos rfl] at H
                      obtain rfl := Option.some.inj H
                      go_wp2
                      go_ret
                      exact ⟨by first | (with_reducible rfl) | rfl | (simp [errW_none, errW_some] <;> rfl) | (simp [*, errW_none, errW_some] <;> rfl), bl HB⟩
                    · replace c17 := Bool.eq_false_iff.mpr c17
                      subst c17
                      rw [if_neg (show ¬ (false = true) by decide)] at H
                      have HC18 := Aside0.mk H
                      clear H
                      go_upto_region 10 with (fail)
                      go_cut [63] (fun v63 wc => ∃ (kq : Nat) (x63_17 : Bool), v63 = .bool x63_17 ∧ Aside0 (sandglassref16_May.j3 kq l0 x3_1 x63_17 = some r) ∧ Aside0 (kq ≤ kj7) ∧ Aside0 (Below w.heap.size w wc))
                      case first =>
                        have H := HC18.out
                        clear HC18
                        by_cases c19 : 0 ≤ x3_1
                        · rw [if_pos c19] at H
                          have c19b0 : decide (0 ≤ x3_1) = true := decide_eq_true c19
                          clear c19
                          (first | rw [c19b0] | (simp only [i64_w, i32_w]; rw [c19b0]) | skip)
                          by_cases c20 : x3_1 < (l0.length : Int)
                          · rw [if_pos c20] at H
                            have c20b0 : decide (x3_1 < (l0.length : Int)) = true := decide_eq_true c20
                            clear c20
                            obtain ⟨bq21, hbq21⟩ : ∃ b_ : Bool, b_ = ((rd_T43 l0 x3_1).f0) := ⟨_, rfl⟩
                            replace H : (if (bq21 = true) then (sandglassref16_May.j3 kj7 l0 x3_1 false) else (sandglassref16_May.j3 kj7 l0 x3_1 (!(((rd_T43 l0 x3_1).f1.f0) == 0) || (!(((rd_T43 l0 x3_1).f1.f1) == 0) || (!(((rd_T43 l0 x3_1).f1.f2) == 0) || (!(((rd_T43 l0 x3_1).f1.f3) == 0))))))) = some r := by rw [← hbq21] at H; exact H
                            have Nbq21 := Aside0.mk hbq21
                            clear hbq21
                            by_cases c22 : (bq21 = true)
                            · subst c22
                              rw [if_pos rfl] at H
                              have H' := Aside0.mk H
                              clear H
                              have p195 : 0 ≤ (x3_1 : Int) := of_decide_eq_true (by first | (with_reducible assumption) | assumption)
                              have q195 : x3_1 < (l0.length : Int) := of_decide_eq_true (by first | (with_reducible assumption) | assumption)
                              obtain ⟨ad195, e195, hx195_0, hx195_1, hx195_2, hx195_3, hx195_4, hx195_5⟩ := at_T43 HR0.out x3_1 p195 q195
                              (try rw [← Nbq21.out] at hx195_0)
                              cases e195
                              replace hx195_0 := (HB.out.cell (World.block_lt_of_cell? w _ hx195_0)).trans hx195_0
                              replace hx195_1 := (HB.out.cell (World.block_lt_of_cell? w _ hx195_1)).trans hx195_1
                              replace hx195_2 := (HB.out.cell (World.block_lt_of_cell? w _ hx195_2)).trans hx195_2
                              replace hx195_3 := (HB.out.cell (World.block_lt_of_cell? w _ hx195_3)).trans hx195_3
                              replace hx195_4 := (HB.out.cell (World.block_lt_of_cell? w _ hx195_4)).trans hx195_4
                              replace hx195_5 := (HB.out.cell (World.block_lt_of_cell? w _ hx195_5)).trans hx195_5
                              replace p195 := eq_true p195
                              replace q195 := eq_true q195
                              go_wp2
                              go_meet
                              case rel => exact ⟨_, (false), (by first | (with_reducible rfl) | rfl | (simp; done) | (simp [*]; done)), H', ⟨by have := HK1.out; have := HJ3.out; have := HJ7.out; first | omega | exact Nat.le_refl _⟩, ⟨bl HB⟩⟩
                            · replace c22 := Bool.eq_false_iff.mpr c22
                              subst c22
                              rw [if_neg (show ¬ (false = true) by decide)] at H
                              have H' := Aside0.mk H
                              clear H
                              have p195 : 0 ≤ (x3_1 : Int) := of_decide_eq_true (by first | (with_reducible assumption) | assumption)
                              have q195 : x3_1 < (l0.length : Int) := of_decide_eq_true (by first | (with_reducible assumption) | assumption)
                              obtain ⟨ad195, e195, hx195_0, hx195_1, hx195_2, hx195_3, hx195_4, hx195_5⟩ := at_T43 HR0.out x3_1 p195 q195
                              (try rw [← Nbq21.out] at hx195_0)
                              cases e195
                              replace hx195_0 := (HB.out.cell (World.block_lt_of_cell? w _ hx195_0)).trans hx195_0
                              replace hx195_1 := (HB.out.cell (World.block_lt_of_cell? w _ hx195_1)).trans hx195_1
                              replace hx195_2 := (HB.out.cell (World.block_lt_of_cell? w _ hx195_2)).trans hx195_2
                              replace hx195_3 := (HB.out.cell (World.block_lt_of_cell? w _ hx195_3)).trans hx195_3
                              replace hx195_4 := (HB.out.cell (World.block_lt_of_cell? w _ hx195_4)).trans hx195_4
                              replace hx195_5 := (HB.out.cell (World.block_lt_of_cell? w _ hx195_5)).trans hx195_5
                              replace p195 := eq_true p195
                              replace q195 := eq_true q195
                              have p196 : 0 ≤ (x3_1 : Int) := of_decide_eq_true (by first | (with_reducible assumption) | assumption)
                              have q196 : x3_1 < (l0.length : Int) := of_decide_eq_true (by first | (with_reducible assumption) | assumption)
                              obtain ⟨ad196, e196, hx196_0, hx196_1, hx196_2, hx196_3, hx196_4, hx196_5⟩ := at_T43 HR0.out x3_1 p196 q196
                              (try rw [← Nbq21.out] at hx196_0)
                              obtain rfl : ad195 = ad196 := (by injection e196)
                              replace hx196_0 := (HB.out.cell (World.block_lt_of_cell? w _ hx196_0)).trans hx196_0
                              replace hx196_1 := (HB.out.cell (World.block_lt_of_cell? w _ hx196_1)).trans hx196_1
                              replace hx196_2 := (HB.out.cell (World.block_lt_of_cell? w _ hx196_2)).trans hx196_2
                              replace hx196_3 := (HB.out.cell (World.block_lt_of_cell? w _ hx196_3)).trans hx196_3
                              replace hx196_4 := (HB.out.cell (World.block_lt_of_cell? w _ hx196_4)).trans hx196_4
                              replace hx196_5 := (HB.out.cell (World.block_lt_of_cell? w _ hx196_5)).trans hx196_5
                              replace p196 := eq_true p196
                              replace q196 := eq_true q196
                              go_wp2
                              go_meet
                              case rel => exact ⟨_, ((!(((rd_T43 l0 x3_1).f1.f0) == 0) || (!(((rd_T43 l0 x3_1).f1.f1) == 0) || (!(((rd_T43 l0 x3_1).f1.f2) == 0) || (!(((rd_T43 l0 x3_1).f1.f3) == 0)))))), (by first | (with_reducible rfl) | rfl | (simp; done) | (simp [*]; done)), H', ⟨by have := HK1.out; have := HJ3.out; have := HJ7.out; first | omega | exact Nat.le_refl _⟩, ⟨bl HB⟩⟩
                          · rw [if_neg c20] at H
                            exact absurd H (by simp)
                        · rw [if_neg c19] at H
                          exact absurd H (by simp)
                      case rest =>
                        clear HC18
                        try clear c1
                        try clear p1
                        try clear q1
                        try clear hx1
                        try clear c2
                        try clear c2b0
                        try clear c2b1
                        try clear p2
                        try clear q2
                        try clear c3
                        try clear c3b0
                        try clear c5
                        try clear c5b0
                        try clear c6
                        try clear c6b0
                        try clear c7
                        try clear c9
                        try clear c9b0
                        try clear c10
                        try clear c10b0
                        try clear q11
                        try clear c12
                        try clear c14
                        try clear c14b0
                        try clear c14b1
                        try clear c17
                        try clear p18
                        try clear q18
                        try clear hx18
                        try clear c19
                        try clear c19b0
                        try clear p19
                        try clear q19
                        try clear hx19
                        try clear c20
                        try clear c20b0
                        try clear q21
                        try clear c22
                        try clear hx189_0
                        try clear hx189_1
                        try clear hx189_2
                        try clear hx189_3
                        try clear hx189_4
                        try clear hx189_5
                        try clear hx190_0
                        try clear hx190_1
                        try clear hx190_2
                        try clear hx190_3
                        try clear hx190_4
                        try clear hx190_5
                        try clear hx191_0
                        try clear hx191_1
                        try clear hx191_2
                        try clear hx191_3
                        try clear hx191_4
                        try clear hx191_5
                        try clear hx192_0
                        try clear hx192_1
                        try clear hx192_2
                        try clear hx192_3
                        try clear hx192_4
                        try clear hx192_5
                        try clear hx194_0
                        try clear hx194_1
                        try clear hx194_2
                        try clear hx194_3
                        try clear hx194_4
                        try clear hx194_5
                        try clear hx195_0
                        try clear hx195_1
                        try clear hx195_2
                        try clear hx195_3
                        try clear hx195_4
                        try clear hx195_5
                        try clear hx196_0
                        try clear hx196_1
                        try clear hx196_2
                        try clear hx196_3
                        try clear hx196_4
                        try clear hx196_5
                        try clear p1
                        try clear p189
                        try clear p190
                        try clear p191
                        try clear p192
                        try clear p194
                        try clear p195
                        try clear p196
                        try clear p2
                        try clear q1
                        try clear q11
                        try clear q189
                        try clear q190
                        try clear q191
                        try clear q192
                        try clear q194
                        try clear q195
                        try clear q196
                        obtain ⟨kq, x63_17, rfl, HA, HJ17, HB⟩ := hcut
                        cases kq with
                        | zero => exact absurd HA.out (by simp [sandglassref16_May.j3])
                        | succ kj17 =>
                          have H := HA.out
                          clear HA
                          simp only [sandglassref16_May.j3] at H
                          by_cases c23 : x63_17 = true
                          · subst c23
                            rw [if_pos rfl] at H
                            obtain rfl := Option.some.inj H
                            go_wp2
                            go_ret
                            exact ⟨by first | (with_reducible rfl) | rfl | (simp [errW_none, errW_some] <;> rfl) | (simp [*, errW_none, errW_some] <;> rfl), bl HB⟩
                          · replace c23 := Bool.eq_false_iff.mpr c23
                            subst c23
                            rw [if_neg (show ¬ (false = true) by decide)] at H
                            have H' := Aside0.mk H
                            clear H
                            go_wp2
                            go_roundg kj17
                            case measure => have := HK1.out; have := HJ3.out; have := HJ7.out; have := HJ17.out; omega
                            case rel => exact ⟨(wrap64 (x3_1 + 1)), (by first | (with_reducible rfl) | rfl | (simp; done) | (simp [*]; done)), H', ⟨by have := HK1.out; have := HJ3.out; have := HJ7.out; have := HJ17.out; omega⟩, ⟨bl HB⟩⟩
        · rw [if_neg c3] at H
          have c3b0 : decide (x3_1 < (l0.length : Int)) = false := decide_eq_false c3
          clear c3
          obtain rfl := Option.some.inj H
          go_wp2
          go_ret
          exact ⟨by first | (with_reducible rfl) | rfl | (simp [errW_none, errW_some] <;> rfl) | (simp [*, errW_none, errW_some] <;> rfl), bl HB⟩
  · rw [if_neg c2] at H
    have c2b0 : ((l0.length : Int) == 8) = false := beq_eq_false_iff_ne.mpr c2
    have c2b1 : ((l0.length : Int) != 8) = true := bne_iff_ne.mpr c2
    obtain rfl := Option.some.inj H
    go_enter Try.func12, Try.ntmps12
    go_wp2
    go_ret
    exact ⟨by first | (with_reducible rfl) | rfl | (simp [errW_none, errW_some] <;> rfl) | (simp [*, errW_none, errW_some] <;> rfl), bl HB⟩

end Go.Proofs.Ythplifnhibahpaa.Q
