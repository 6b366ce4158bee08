-- Laid by wip/tools/hprint.py, a program of this repo, over the kit's print; not a text of print.sh.
import Derived.Test.YteljllpkjhkanaaQ0
namespace Go.Proofs.Yteljllpkjhkanaa.Q
open Go.RowKit Go.Proofs.Yteljllpkjhkanaa.Zip Go.Proofs.YteljllpkjhkanaaW.PrintWords Go.Proofs.YteljllpkjhkanaaW.PrintLast Go.Proofs.YteljllpkjhkanaaW.PrintMore
attribute [local go_sem] max2_int min2_int max_two min_two max_three min_three max_four min_four   -- for this text's walks alone
set_option linter.unusedVariables false
set_option linter.unusedSimpArgs false

/-! ### sandglassref20_Pieces: function 9 -/
mutual
def sandglassref20_Pieces.l0 : Nat → ByteArray → List (S39) → Int → Option ((List (S39)) × Int)
  | 0, _, _, _ => none
  | k + 1, x0, x4, x5 => if (wrap64 ((x0.size : Int) - x5)) ≥ 2 then (if 0 ≤ x5 then (if x5 < (x0.size : Int) then (if 0 ≤ (wrap64 (x5 + 1)) then (if (wrap64 (x5 + 1)) < (x0.size : Int) then (if (wrap64 ((wrap64 (256 * (wrap64 (bt x0 x5)))) + (wrap64 (bt x0 (wrap64 (x5 + 1)))))) < 1 then (sandglassref20_Pieces.j1 k x0 x4 x5 (wrap64 ((wrap64 (256 * (wrap64 (bt x0 x5)))) + (wrap64 (bt x0 (wrap64 (x5 + 1)))))) true) else (sandglassref20_Pieces.j1 k x0 x4 x5 (wrap64 ((wrap64 (256 * (wrap64 (bt x0 x5)))) + (wrap64 (bt x0 (wrap64 (x5 + 1)))))) (decide ((wrap64 ((wrap64 (256 * (wrap64 (bt x0 x5)))) + (wrap64 (bt x0 (wrap64 (x5 + 1)))))) > 512)))) else (none)) else (none)) else (none)) else (none)) else (some (x4, wrap64 ((x0.size : Int) - x5)))
def sandglassref20_Pieces.j1 : Nat → ByteArray → List (S39) → Int → Int → Bool → Option ((List (S39)) × Int)
  | 0, _, _, _, _, _ => none
  | k + 1, x0, x4, x5, x6, x28 => if x28 = true then (if x4.length < 5864062014805 then ((some (x4 ++ [(⟨(⟨#[]⟩ : ByteArray), 8⟩ : S39)] : List (S39))).bind fun y107 => (if (wrap64 ((wrap64 (x5 + 2)) + x6)) > (x0.size : Int) then (some (y107, 0)) else (sandglassref20_Pieces.l0 k x0 y107 (wrap64 ((wrap64 (x5 + 2)) + x6))))) else (none)) else (if (wrap64 ((wrap64 ((x0.size : Int) - x5)) - 2)) < x6 then (some (x4, wrap64 ((x0.size : Int) - x5))) else (if 0 ≤ (wrap64 (x5 + 2)) then (if (wrap64 (x5 + 2)) ≤ (wrap64 ((wrap64 (x5 + 2)) + x6)) then (if (wrap64 ((wrap64 (x5 + 2)) + x6)) ≤ (x0.size : Int) then (if x4.length < 5864062014805 then (sandglassref20_Pieces.l0 k x0 (x4 ++ [(⟨x0.extract ((wrap64 (x5 + 2)) : Int).toNat ((wrap64 ((wrap64 (x5 + 2)) + x6)) : Int).toNat, 0⟩ : S39)]) (wrap64 ((wrap64 (x5 + 2)) + x6))) else (none)) else (none)) else (none)) else (none)))
end
def sandglassref20_Pieces.f (k : Nat) (a0 : ByteArray) : Option ((List (S39)) × Int) := sandglassref20_Pieces.l0 k a0 ([] : List (S39)) 0
theorem sandglassref20_Pieces.mono_l : ∀ k, (∀ y0 y1 y2, LeO (sandglassref20_Pieces.l0 k y0 y1 y2) (sandglassref20_Pieces.l0 (k + 1) y0 y1 y2)) ∧ (∀ y0 y1 y2 y3 y4, LeO (sandglassref20_Pieces.j1 k y0 y1 y2 y3 y4) (sandglassref20_Pieces.j1 (k + 1) y0 y1 y2 y3 y4))
  | 0 => ⟨fun _ _ _ r h => by simp [sandglassref20_Pieces.l0] at h, fun _ _ _ _ _ r h => by simp [sandglassref20_Pieces.j1] at h⟩
  | k + 1 => by
    obtain ⟨ih0, ih1⟩ := sandglassref20_Pieces.mono_l k
    refine ⟨?_, ?_⟩
    · intro y0 y1 y2
      unfold sandglassref20_Pieces.l0
      repeat' first
      | (with_reducible exact ih0 _ _ _)
      | (with_reducible exact ih1 _ _ _ _ _)
      | (with_reducible exact LeO.refl _)
      | (with_reducible exact LeO.none _)
      | (with_reducible refine LeO.ite ?_ ?_)
      | (with_reducible refine LeO.bind ?_ (fun _ => ?_))
      | exact ih0 _ _ _
      | exact ih1 _ _ _ _ _
      | exact LeO.none _
      | refine LeO.ite ?_ ?_
      | refine LeO.bind ?_ (fun _ => ?_)
    · intro y0 y1 y2 y3 y4
      unfold sandglassref20_Pieces.j1
      repeat' first
      | (with_reducible exact ih0 _ _ _)
      | (with_reducible exact ih1 _ _ _ _ _)
      | (with_reducible exact LeO.refl _)
      | (with_reducible exact LeO.none _)
      | (with_reducible refine LeO.ite ?_ ?_)
      | (with_reducible refine LeO.bind ?_ (fun _ => ?_))
      | exact ih0 _ _ _
      | exact ih1 _ _ _ _ _
      | exact LeO.none _
      | refine LeO.ite ?_ ?_
      | refine LeO.bind ?_ (fun _ => ?_)
theorem sandglassref20_Pieces.mono : ∀ a0 k, LeO (sandglassref20_Pieces.f k a0) (sandglassref20_Pieces.f (k + 1) a0) := by
  intro a0 k
  obtain ⟨ih0, ih1⟩ := sandglassref20_Pieces.mono_l k
  unfold sandglassref20_Pieces.f
  repeat' first
      | (with_reducible exact ih0 _ _ _)
      | (with_reducible exact ih1 _ _ _ _ _)
      | (with_reducible exact LeO.refl _)
      | (with_reducible exact LeO.none _)
      | (with_reducible refine LeO.ite ?_ ?_)
      | (with_reducible refine LeO.bind ?_ (fun _ => ?_))
      | exact ih0 _ _ _
      | exact ih1 _ _ _ _ _
      | exact LeO.none _
      | refine LeO.ite ?_ ?_
      | refine LeO.bind ?_ (fun _ => ?_)
set_option maxHeartbeats 8000000 in
set_option maxRecDepth 100000 in
theorem sandglassref20_Pieces.calls (k : Nat) (a0 : ByteArray) (r1 : List (S39)) (r2 : Int) (w : World) (h : sandglassref20_Pieces.f k a0 = some (r1, r2)) :
    Calls Try.prog 9 #[.string a0] w fun e w' => ∃ v0_ : Value, e = .returned (.tuple #[v0_, .int .i64 r2]) ∧ Kd.R k39 39 w' w.heap.size (fun _ => True) v0_ r1 ∧ Below w.heap.size w w' := by
  have hu39 := Try.underlying39
  have HB := Aside0.mk (Below.refl w.heap.size w)
  have H : (sandglassref20_Pieces.l0 k a0 ([] : List (S39)) 0) = some (r1, r2) := h
  clear h
  have H' := Aside0.mk H
  clear H
  go_enter Try.func9, Try.ntmps9
  go_wp2
  repeat (go_quiet (fail); try go_wp2)
  go_loopg [4, 5] k (fun kq v4 v5 w' => ∃ (x4_1 : List (S39)) (x5_1 : Int), v5 = .int .i64 x5_1 ∧ Aside0 (sandglassref20_Pieces.l0 kq a0 x4_1 x5_1 = some (r1, r2)) ∧ Aside0 (kq ≤ k) ∧ Aside0 (Kd.R k39 39 w' w.heap.size (fun _ => True) v4 x4_1) ∧ Aside0 (Below w.heap.size w w'))
  case atStart => exact ⟨(([] : List (S39))), (0), (by first | (with_reducible rfl) | rfl | (simp; done) | (simp [*]; done)), H', ⟨Nat.le_refl _⟩, ⟨by first | exact Kd.R_nil _ _ _ _ _ | exact Kd.N_nil _ _ _ _ _ | exact Kd.V_nil _ _ _ _ _ | exact Kd.Q_nil _ _ _ _ _ | exact Kd.S_nil _ _ _ _ _⟩, ⟨bl HB⟩⟩
  case round =>
    clear H'
    obtain ⟨x4_1, x5_1, rfl, HA, HK1, HO_4, HB⟩ := hrel
    cases gk with
    | zero => exact absurd HA.out (by simp [sandglassref20_Pieces.l0])
    | succ k1 =>
      have H := HA.out
      clear HA
      simp only [sandglassref20_Pieces.l0] at H
      by_cases c2 : (wrap64 ((a0.size : Int) - x5_1)) ≥ 2
      · rw [if_pos c2] at H
        have c2b0 : decide (2 ≤ (wrap64 ((a0.size : Int) - x5_1))) = true := decide_eq_true c2
        clear c2
        by_cases c3 : 0 ≤ x5_1
        · rw [if_pos c3] at H
          have c3b0 : decide (0 ≤ x5_1) = true := decide_eq_true c3
          clear c3
          by_cases c4 : x5_1 < (a0.size : Int)
          · rw [if_pos c4] at H
            have c4b0 : decide (x5_1 < (a0.size : Int)) = true := decide_eq_true c4
            clear c4
            obtain ⟨ji6, hji6⟩ : ∃ j_ : Int, (wrap64 (x5_1 + 1)) = j_ := ⟨_, rfl⟩
            replace H : (if 0 ≤ (ji6) then (if (ji6) < (a0.size : Int) then (if (wrap64 ((wrap64 (256 * (wrap64 (bt a0 x5_1)))) + (wrap64 (bt a0 (ji6))))) < 1 then (sandglassref20_Pieces.j1 k1 a0 x4_1 x5_1 (wrap64 ((wrap64 (256 * (wrap64 (bt a0 x5_1)))) + (wrap64 (bt a0 (ji6))))) true) else (sandglassref20_Pieces.j1 k1 a0 x4_1 x5_1 (wrap64 ((wrap64 (256 * (wrap64 (bt a0 x5_1)))) + (wrap64 (bt a0 (ji6))))) (decide ((wrap64 ((wrap64 (256 * (wrap64 (bt a0 x5_1)))) + (wrap64 (bt a0 (ji6))))) > 512)))) else (none)) else (none)) = some (r1, r2) := by first | (rw [hji6] at H; exact H) | (simp only [hji6] at H ⊢; exact H)
            have hji6w : (IntKind.i64.wrap (x5_1 + 1)) = ji6 := (i64_w _).trans hji6
            by_cases c7 : 0 ≤ (ji6)
            · rw [if_pos c7] at H
              have c7b0 : decide (0 ≤ (ji6)) = true := decide_eq_true c7
              clear c7
              by_cases c8 : (ji6) < (a0.size : Int)
              · rw [if_pos c8] at H
                have c8b0 : decide ((ji6) < (a0.size : Int)) = true := decide_eq_true c8
                clear c8
                have HC10 := Aside0.mk H
                clear H
                have p5 : 0 ≤ (x5_1 : Int) := of_decide_eq_true (by first | (with_reducible assumption) | assumption)
                have q5 : x5_1 < (a0.size : Int) := of_decide_eq_true (by first | (with_reducible assumption) | assumption)
                have hx5 := bt_at a0 x5_1
                replace p5 := eq_true p5
                replace q5 := eq_true q5
                have p9 : 0 ≤ ((ji6) : Int) := of_decide_eq_true (by first | (with_reducible assumption) | assumption)
                have q9 : (ji6) < (a0.size : Int) := of_decide_eq_true (by first | (with_reducible assumption) | assumption)
                have hx9 := bt_at a0 (ji6)
                replace p9 := eq_true p9
                replace q9 := eq_true q9
                go_upto_region 5 with (fail)
                repeat (go_quiet (fail); go_upto_region 5 with (fail))
                go_cut [28] (fun v28 wc => ∃ (kq : Nat) (x28_9 : Bool), v28 = .bool x28_9 ∧ Aside0 (sandglassref20_Pieces.j1 kq a0 x4_1 x5_1 (wrap64 ((wrap64 (256 * (wrap64 (bt a0 x5_1)))) + (wrap64 (bt a0 (ji6))))) x28_9 = some (r1, r2)) ∧ Aside0 (kq ≤ k1) ∧ Aside0 (Kd.R k39 39 wc w.heap.size (fun _ => True) u4 x4_1) ∧ Aside0 (Below w.heap.size w wc))
                case first =>
                  have H := HC10.out
                  clear HC10
                  by_cases c11 : (wrap64 ((wrap64 (256 * (wrap64 (bt a0 x5_1)))) + (wrap64 (bt a0 (ji6))))) < 1
                  · rw [if_pos c11] at H
                    have c11b0 : decide ((wrap64 ((wrap64 (256 * (wrap64 (bt a0 x5_1)))) + (wrap64 (bt a0 (ji6))))) < 1) = true := decide_eq_true c11
                    clear c11
                    (first | rw [c11b0] | (simp only [i64_w, i32_w]; rw [c11b0]) | skip)
                    have H' := Aside0.mk H
                    clear H
                    go_wp2
                    repeat (go_quiet (fail); try go_wp2)
                    go_meet
                    case rel => exact ⟨_, (true), (by first | (with_reducible rfl) | rfl | (simp; done) | (simp [*]; done)), H', ⟨by have := HK1.out; first | omega | exact Nat.le_refl _⟩, ⟨by (with_reducible repeat (first | apply Kd.R_alloc | apply Kd.R_drewN | apply Kd.R_drew)); exact HO_4.out⟩, ⟨bl HB⟩⟩
                  · rw [if_neg c11] at H
                    have c11b0 : decide ((wrap64 ((wrap64 (256 * (wrap64 (bt a0 x5_1)))) + (wrap64 (bt a0 (ji6))))) < 1) = false := decide_eq_false c11
                    clear c11
                    (first | rw [c11b0] | (simp only [i64_w, i32_w]; rw [c11b0]) | skip)
                    have H' := Aside0.mk H
                    clear H
                    go_wp2
                    repeat (go_quiet (fail); try go_wp2)
                    go_meet
                    case rel => exact ⟨_, (decide ((wrap64 ((wrap64 (256 * (wrap64 (bt a0 x5_1)))) + (wrap64 (bt a0 (ji6))))) > 512)), (by first | (with_reducible rfl) | (simp only [← hji6]; with_reducible rfl) | (simp only [← hji6]; done) | rfl | (simp; done) | (simp only [← hji6] <;> (first | rfl | simp)) | (simp [*]; done)), H', ⟨by have := HK1.out; first | omega | exact Nat.le_refl _⟩, ⟨by (with_reducible repeat (first | apply Kd.R_alloc | apply Kd.R_drewN | apply Kd.R_drew)); exact HO_4.out⟩, ⟨bl HB⟩⟩
                case rest =>
                  clear HC10
                  try clear c1
                  try clear c2
                  try clear c2b0
                  try clear p2
                  try clear c3
                  try clear c3b0
                  try clear c4
                  try clear c4b0
                  try clear p5
                  try clear q5
                  try clear hx5
                  try clear p6
                  try clear c7
                  try clear c7b0
                  try clear c8
                  try clear c8b0
                  try clear c9
                  try clear p9
                  try clear q9
                  try clear hx9
                  try clear c11
                  try clear c11b0
                  try clear p5
                  try clear p9
                  try clear q5
                  try clear q9
                  obtain ⟨kq, x28_9, rfl, HA, HJ9, HO_4, HB⟩ := hcut
                  cases kq with
                  | zero => exact absurd HA.out (by simp [sandglassref20_Pieces.j1])
                  | succ kj9 =>
                    have H := HA.out
                    clear HA
                    simp only [sandglassref20_Pieces.j1] at H
                    by_cases c12 : x28_9 = true
                    · subst c12
                      rw [if_pos rfl] at H
                      by_cases c13 : x4_1.length < 5864062014805
                      · rw [if_pos c13] at H
                        have LMc13 := Aside0.mk c13
                        clear c13
                        obtain ⟨y107, hy107⟩ : ∃ y_ : List (S39), y_ = (x4_1 ++ [(⟨(⟨#[]⟩ : ByteArray), 8⟩ : S39)]) := ⟨_, rfl⟩
                        replace H : (if (wrap64 ((wrap64 (x5_1 + 2)) + (wrap64 ((wrap64 (256 * (wrap64 (bt a0 x5_1)))) + (wrap64 (bt a0 (ji6))))))) > (a0.size : Int) then (some (y107, 0)) else (sandglassref20_Pieces.l0 kj9 a0 y107 (wrap64 ((wrap64 (x5_1 + 2)) + (wrap64 ((wrap64 (256 * (wrap64 (bt a0 x5_1)))) + (wrap64 (bt a0 (ji6))))))))) = some (r1, r2) := by first | (rw [hy107]; with_reducible exact H) | (have H2_ := (Option.bind_some _ _).symm.trans H; rw [hy107]; with_reducible exact H2_) | (have H2_ := (Option.bind_some _ _).symm.trans H; with_reducible exact H2_) | with_reducible exact H | (rw [hy107]; exact H) | exact H
                        have Ny107 := Aside0.mk hy107
                        clear hy107
                        by_cases c14 : (wrap64 ((wrap64 (x5_1 + 2)) + (wrap64 ((wrap64 (256 * (wrap64 (bt a0 x5_1)))) + (wrap64 (bt a0 (ji6))))))) > (a0.size : Int)
                        · rw [if_pos c14] at H
                          have c14b0 : decide ((a0.size : Int) < (wrap64 ((wrap64 (x5_1 + 2)) + (wrap64 ((wrap64 (256 * (wrap64 (bt a0 x5_1)))) + (wrap64 (bt a0 (ji6)))))))) = true := decide_eq_true c14
                          clear c14
                          simp only [Option.some.injEq, Prod.mk.injEq] at H
                          obtain ⟨rfl, rfl⟩ := H
                          go_wp2_with (first | ((with_reducible refine gate_builtin (b := .append) (xs := #[.tmp 29, .tmp 31]) rfl ?_); at_builtin; refine Kd.R_append k39 (w0 := w) w.heap.size rfl (.tmp 29) (.tmp 31) 27 39 (.agg #[(.string ⟨#[]⟩), (.int .i64 0)]) 24 rfl Try.underlying27 info39 rfl (by decide) (by omega) u4 x4_1 (⟨(⟨#[]⟩ : ByteArray), 8⟩ : S39) [.string (⟨#[]⟩ : ByteArray), .int .i64 8] (fun _ => True) (fun _ => False) rfl rfl ?aP (fun _ hk => hk.elim) ?aF ?aO ?aB ?aS ?aL ?_; (case aP => exact k39_mkM _ _ _ (⟨(⟨#[]⟩ : ByteArray), 8⟩ : S39)); (case aB => exact (bl HB)); (case aF => exact (fun _ _ => trivial)); (case aO => exact (by (with_reducible repeat (first | apply Kd.R_alloc | apply Kd.R_drewN | apply Kd.R_drew)); exact HO_4.out)); (case aS => exact (below_size (bl HB))); (case aL => have := LMc13.out; omega); intro v108 w15 ho hb hg hat; rw [← Ny107.out] at ho; have HO109 := Aside0.mk (ho); replace HB := Aside0.mk (hb); clear HO_4; clear ho hb hg hat))
                          repeat (go_quiet (first | ((with_reducible refine gate_builtin (b := .append) (xs := #[.tmp 29, .tmp 31]) rfl ?_); at_builtin; refine Kd.R_append k39 (w0 := w) w.heap.size rfl (.tmp 29) (.tmp 31) 27 39 (.agg #[(.string ⟨#[]⟩), (.int .i64 0)]) 24 rfl Try.underlying27 info39 rfl (by decide) (by omega) u4 x4_1 (⟨(⟨#[]⟩ : ByteArray), 8⟩ : S39) [.string (⟨#[]⟩ : ByteArray), .int .i64 8] (fun _ => True) (fun _ => False) rfl rfl ?aP (fun _ hk => hk.elim) ?aF ?aO ?aB ?aS ?aL ?_; (case aP => exact k39_mkM _ _ _ (⟨(⟨#[]⟩ : ByteArray), 8⟩ : S39)); (case aB => exact (bl HB)); (case aF => exact (fun _ _ => trivial)); (case aO => exact (by (with_reducible repeat (first | apply Kd.R_alloc | apply Kd.R_drewN | apply Kd.R_drew)); exact HO_4.out)); (case aS => exact (below_size (bl HB))); (case aL => have := LMc13.out; omega); intro v108 w15 ho hb hg hat; rw [← Ny107.out] at ho; have HO109 := Aside0.mk (ho); replace HB := Aside0.mk (hb); clear HO_4; clear ho hb hg hat)); try go_wp2_with (first | ((with_reducible refine gate_builtin (b := .append) (xs := #[.tmp 29, .tmp 31]) rfl ?_); at_builtin; refine Kd.R_append k39 (w0 := w) w.heap.size rfl (.tmp 29) (.tmp 31) 27 39 (.agg #[(.string ⟨#[]⟩), (.int .i64 0)]) 24 rfl Try.underlying27 info39 rfl (by decide) (by omega) u4 x4_1 (⟨(⟨#[]⟩ : ByteArray), 8⟩ : S39) [.string (⟨#[]⟩ : ByteArray), .int .i64 8] (fun _ => True) (fun _ => False) rfl rfl ?aP (fun _ hk => hk.elim) ?aF ?aO ?aB ?aS ?aL ?_; (case aP => exact k39_mkM _ _ _ (⟨(⟨#[]⟩ : ByteArray), 8⟩ : S39)); (case aB => exact (bl HB)); (case aF => exact (fun _ _ => trivial)); (case aO => exact (by (with_reducible repeat (first | apply Kd.R_alloc | apply Kd.R_drewN | apply Kd.R_drew)); exact HO_4.out)); (case aS => exact (below_size (bl HB))); (case aL => have := LMc13.out; omega); intro v108 w15 ho hb hg hat; rw [← Ny107.out] at ho; have HO109 := Aside0.mk (ho); replace HB := Aside0.mk (hb); clear HO_4; clear ho hb hg hat)))
                          go_ret2
                          exact ⟨_, by first | (with_reducible rfl) | (simp only [← hji6]; with_reducible rfl) | (simp only [← hji6]; done) | rfl | (simp [errW_none, errW_some] <;> rfl) | (simp only [← hji6]; first | rfl | (simp [errW_none, errW_some] <;> rfl)) | (simp [*, errW_none, errW_some] <;> rfl), by (with_reducible repeat (first | apply Kd.R_alloc | apply Kd.R_drewN | apply Kd.R_drew)); exact HO109.out, bl HB⟩
                        · rw [if_neg c14] at H
                          have c14b0 : decide ((a0.size : Int) < (wrap64 ((wrap64 (x5_1 + 2)) + (wrap64 ((wrap64 (256 * (wrap64 (bt a0 x5_1)))) + (wrap64 (bt a0 (ji6)))))))) = false := decide_eq_false c14
                          clear c14
                          have H' := Aside0.mk H
                          clear H
                          go_wp2_with (first | ((with_reducible refine gate_builtin (b := .append) (xs := #[.tmp 29, .tmp 31]) rfl ?_); at_builtin; refine Kd.R_append k39 (w0 := w) w.heap.size rfl (.tmp 29) (.tmp 31) 27 39 (.agg #[(.string ⟨#[]⟩), (.int .i64 0)]) 24 rfl Try.underlying27 info39 rfl (by decide) (by omega) u4 x4_1 (⟨(⟨#[]⟩ : ByteArray), 8⟩ : S39) [.string (⟨#[]⟩ : ByteArray), .int .i64 8] (fun _ => True) (fun _ => False) rfl rfl ?aP (fun _ hk => hk.elim) ?aF ?aO ?aB ?aS ?aL ?_; (case aP => exact k39_mkM _ _ _ (⟨(⟨#[]⟩ : ByteArray), 8⟩ : S39)); (case aB => exact (bl HB)); (case aF => exact (fun _ _ => trivial)); (case aO => exact (by (with_reducible repeat (first | apply Kd.R_alloc | apply Kd.R_drewN | apply Kd.R_drew)); exact HO_4.out)); (case aS => exact (below_size (bl HB))); (case aL => have := LMc13.out; omega); intro v108 w16 ho hb hg hat; rw [← Ny107.out] at ho; have HO109 := Aside0.mk (ho); replace HB := Aside0.mk (hb); clear HO_4; clear ho hb hg hat))
                          repeat (go_quiet (first | ((with_reducible refine gate_builtin (b := .append) (xs := #[.tmp 29, .tmp 31]) rfl ?_); at_builtin; refine Kd.R_append k39 (w0 := w) w.heap.size rfl (.tmp 29) (.tmp 31) 27 39 (.agg #[(.string ⟨#[]⟩), (.int .i64 0)]) 24 rfl Try.underlying27 info39 rfl (by decide) (by omega) u4 x4_1 (⟨(⟨#[]⟩ : ByteArray), 8⟩ : S39) [.string (⟨#[]⟩ : ByteArray), .int .i64 8] (fun _ => True) (fun _ => False) rfl rfl ?aP (fun _ hk => hk.elim) ?aF ?aO ?aB ?aS ?aL ?_; (case aP => exact k39_mkM _ _ _ (⟨(⟨#[]⟩ : ByteArray), 8⟩ : S39)); (case aB => exact (bl HB)); (case aF => exact (fun _ _ => trivial)); (case aO => exact (by (with_reducible repeat (first | apply Kd.R_alloc | apply Kd.R_drewN | apply Kd.R_drew)); exact HO_4.out)); (case aS => exact (below_size (bl HB))); (case aL => have := LMc13.out; omega); intro v108 w16 ho hb hg hat; rw [← Ny107.out] at ho; have HO109 := Aside0.mk (ho); replace HB := Aside0.mk (hb); clear HO_4; clear ho hb hg hat)); try go_wp2_with (first | ((with_reducible refine gate_builtin (b := .append) (xs := #[.tmp 29, .tmp 31]) rfl ?_); at_builtin; refine Kd.R_append k39 (w0 := w) w.heap.size rfl (.tmp 29) (.tmp 31) 27 39 (.agg #[(.string ⟨#[]⟩), (.int .i64 0)]) 24 rfl Try.underlying27 info39 rfl (by decide) (by omega) u4 x4_1 (⟨(⟨#[]⟩ : ByteArray), 8⟩ : S39) [.string (⟨#[]⟩ : ByteArray), .int .i64 8] (fun _ => True) (fun _ => False) rfl rfl ?aP (fun _ hk => hk.elim) ?aF ?aO ?aB ?aS ?aL ?_; (case aP => exact k39_mkM _ _ _ (⟨(⟨#[]⟩ : ByteArray), 8⟩ : S39)); (case aB => exact (bl HB)); (case aF => exact (fun _ _ => trivial)); (case aO => exact (by (with_reducible repeat (first | apply Kd.R_alloc | apply Kd.R_drewN | apply Kd.R_drew)); exact HO_4.out)); (case aS => exact (below_size (bl HB))); (case aL => have := LMc13.out; omega); intro v108 w16 ho hb hg hat; rw [← Ny107.out] at ho; have HO109 := Aside0.mk (ho); replace HB := Aside0.mk (hb); clear HO_4; clear ho hb hg hat)))
                          go_roundg kj9
                          case measure => have := HK1.out; have := HJ9.out; omega
                          case rel => exact ⟨(y107), (wrap64 ((wrap64 (x5_1 + 2)) + (wrap64 ((wrap64 (256 * (wrap64 (bt a0 x5_1)))) + (wrap64 (bt a0 (ji6))))))), (by first | (with_reducible rfl) | (simp only [← hji6]; with_reducible rfl) | (simp only [← hji6]; done) | rfl | (simp; done) | (simp only [← hji6] <;> (first | rfl | simp)) | (simp [*]; done)), H', ⟨by have := HK1.out; have := HJ9.out; omega⟩, ⟨by (with_reducible repeat (first | apply Kd.R_alloc | apply Kd.R_drewN | apply Kd.R_drew)); exact HO109.out⟩, ⟨bl HB⟩⟩
                      · rw [if_neg c13] at H
                        exact absurd H (by simp)
                    · replace c12 := Bool.eq_false_iff.mpr c12
                      subst c12
                      rw [if_neg (show ¬ (false = true) by decide)] at H
                      by_cases c17 : (wrap64 ((wrap64 ((a0.size : Int) - x5_1)) - 2)) < (wrap64 ((wrap64 (256 * (wrap64 (bt a0 x5_1)))) + (wrap64 (bt a0 (ji6)))))
                      · rw [if_pos c17] at H
                        have c17b0 : decide ((wrap64 ((wrap64 ((a0.size : Int) - x5_1)) - 2)) < (wrap64 ((wrap64 (256 * (wrap64 (bt a0 x5_1)))) + (wrap64 (bt a0 (ji6)))))) = true := decide_eq_true c17
                        clear c17
                        simp only [Option.some.injEq, Prod.mk.injEq] at H
                        obtain ⟨rfl, rfl⟩ := H
                        go_wp2
                        repeat (go_quiet (fail); try go_wp2)
                        go_ret2
                        exact ⟨_, by first | (with_reducible rfl) | (simp only [← hji6]; with_reducible rfl) | (simp only [← hji6]; done) | rfl | (simp [errW_none, errW_some] <;> rfl) | (simp only [← hji6]; first | rfl | (simp [errW_none, errW_some] <;> rfl)) | (simp [*, errW_none, errW_some] <;> rfl), by (with_reducible repeat (first | apply Kd.R_alloc | apply Kd.R_drewN | apply Kd.R_drew)); exact HO_4.out, bl HB⟩
                      · rw [if_neg c17] at H
                        have c17b0 : decide ((wrap64 ((wrap64 ((a0.size : Int) - x5_1)) - 2)) < (wrap64 ((wrap64 (256 * (wrap64 (bt a0 x5_1)))) + (wrap64 (bt a0 (ji6)))))) = false := decide_eq_false c17
                        clear c17
                        obtain ⟨ji18, hji18⟩ : ∃ j_ : Int, (wrap64 (x5_1 + 2)) = j_ := ⟨_, rfl⟩
                        replace H : (if 0 ≤ (ji18) then (if (ji18) ≤ (wrap64 ((ji18) + (wrap64 ((wrap64 (256 * (wrap64 (bt a0 x5_1)))) + (wrap64 (bt a0 (ji6))))))) then (if (wrap64 ((ji18) + (wrap64 ((wrap64 (256 * (wrap64 (bt a0 x5_1)))) + (wrap64 (bt a0 (ji6))))))) ≤ (a0.size : Int) then (if x4_1.length < 5864062014805 then (sandglassref20_Pieces.l0 kj9 a0 (x4_1 ++ [(⟨a0.extract ((ji18) : Int).toNat ((wrap64 ((ji18) + (wrap64 ((wrap64 (256 * (wrap64 (bt a0 x5_1)))) + (wrap64 (bt a0 (ji6))))))) : Int).toNat, 0⟩ : S39)]) (wrap64 ((ji18) + (wrap64 ((wrap64 (256 * (wrap64 (bt a0 x5_1)))) + (wrap64 (bt a0 (ji6)))))))) else (none)) else (none)) else (none)) else (none)) = some (r1, r2) := by first | (rw [hji18] at H; exact H) | (simp only [hji18] at H ⊢; exact H)
                        have hji18w : (IntKind.i64.wrap (x5_1 + 2)) = ji18 := (i64_w _).trans hji18
                        by_cases c19 : 0 ≤ (ji18)
                        · rw [if_pos c19] at H
                          have c19b0 := eq_true c19
                          have c19b1 : decide (0 ≤ (ji18)) = true := decide_eq_true c19
                          clear c19
                          by_cases c20 : (ji18) ≤ (wrap64 ((ji18) + (wrap64 ((wrap64 (256 * (wrap64 (bt a0 x5_1)))) + (wrap64 (bt a0 (ji6)))))))
                          · rw [if_pos c20] at H
                            have c20b0 := eq_true c20
                            have c20b1 : decide ((ji18) ≤ (wrap64 ((ji18) + (wrap64 ((wrap64 (256 * (wrap64 (bt a0 x5_1)))) + (wrap64 (bt a0 (ji6)))))))) = true := decide_eq_true c20
                            by_cases c21 : (wrap64 ((ji18) + (wrap64 ((wrap64 (256 * (wrap64 (bt a0 x5_1)))) + (wrap64 (bt a0 (ji6))))))) ≤ (a0.size : Int)
                            · rw [if_pos c21] at H
                              have c21b0 := eq_true c21
                              have c21b1 : decide ((wrap64 ((ji18) + (wrap64 ((wrap64 (256 * (wrap64 (bt a0 x5_1)))) + (wrap64 (bt a0 (ji6))))))) ≤ (a0.size : Int)) = true := decide_eq_true c21
                              by_cases c22 : x4_1.length < 5864062014805
                              · rw [if_pos c22] at H
                                have LMc22 := Aside0.mk c22
                                clear c22
                                obtain ⟨y110, hy110⟩ : ∃ y_ : List (S39), y_ = (x4_1 ++ [(⟨a0.extract ((ji18) : Int).toNat ((wrap64 ((ji18) + (wrap64 ((wrap64 (256 * (wrap64 (bt a0 x5_1)))) + (wrap64 (bt a0 (ji6))))))) : Int).toNat, 0⟩ : S39)]) := ⟨_, rfl⟩
                                replace H : (sandglassref20_Pieces.l0 kj9 a0 y110 (wrap64 ((ji18) + (wrap64 ((wrap64 (256 * (wrap64 (bt a0 x5_1)))) + (wrap64 (bt a0 (ji6)))))))) = some (r1, r2) := by first | (rw [hy110]; with_reducible exact H) | (have H2_ := (Option.bind_some _ _).symm.trans H; rw [hy110]; with_reducible exact H2_) | (have H2_ := (Option.bind_some _ _).symm.trans H; with_reducible exact H2_) | with_reducible exact H | (rw [hy110]; exact H) | exact H
                                have Ny110 := Aside0.mk hy110
                                clear hy110
                                have H' := Aside0.mk H
                                clear H
                                go_wp2_with (first | ((with_reducible refine gate_builtin (b := .append) (xs := #[.tmp 49, .tmp 59]) rfl ?_); at_builtin; refine Kd.R_append k39 (w0 := w) w.heap.size rfl (.tmp 49) (.tmp 59) 27 39 (.agg #[(.string ⟨#[]⟩), (.int .i64 0)]) 24 rfl Try.underlying27 info39 rfl (by decide) (by omega) u4 x4_1 (⟨a0.extract ((ji18) : Int).toNat ((wrap64 ((ji18) + (wrap64 ((wrap64 (256 * (wrap64 (bt a0 x5_1)))) + (wrap64 (bt a0 (ji6))))))) : Int).toNat, 0⟩ : S39) [.string (a0.extract ((ji18) : Int).toNat ((wrap64 ((ji18) + (wrap64 ((wrap64 (256 * (wrap64 (bt a0 x5_1)))) + (wrap64 (bt a0 (ji6))))))) : Int).toNat), .int .i64 0] (fun _ => True) (fun _ => False) rfl rfl ?aP (fun _ hk => hk.elim) ?aF ?aO ?aB ?aS ?aL ?_; (case aP => exact k39_mkM _ _ _ (⟨a0.extract ((ji18) : Int).toNat ((wrap64 ((ji18) + (wrap64 ((wrap64 (256 * (wrap64 (bt a0 x5_1)))) + (wrap64 (bt a0 (ji6))))))) : Int).toNat, 0⟩ : S39)); (case aB => exact (bl HB)); (case aF => exact (fun _ _ => trivial)); (case aO => exact (by (with_reducible repeat (first | apply Kd.R_alloc | apply Kd.R_drewN | apply Kd.R_drew)); exact HO_4.out)); (case aS => exact (below_size (bl HB))); (case aL => have := LMc22.out; omega); intro v111 w23 ho hb hg hat; rw [← Ny110.out] at ho; have HO112 := Aside0.mk (ho); replace HB := Aside0.mk (hb); clear HO_4; clear ho hb hg hat))
                                repeat (go_quiet (first | ((with_reducible refine gate_builtin (b := .append) (xs := #[.tmp 49, .tmp 59]) rfl ?_); at_builtin; refine Kd.R_append k39 (w0 := w) w.heap.size rfl (.tmp 49) (.tmp 59) 27 39 (.agg #[(.string ⟨#[]⟩), (.int .i64 0)]) 24 rfl Try.underlying27 info39 rfl (by decide) (by omega) u4 x4_1 (⟨a0.extract ((ji18) : Int).toNat ((wrap64 ((ji18) + (wrap64 ((wrap64 (256 * (wrap64 (bt a0 x5_1)))) + (wrap64 (bt a0 (ji6))))))) : Int).toNat, 0⟩ : S39) [.string (a0.extract ((ji18) : Int).toNat ((wrap64 ((ji18) + (wrap64 ((wrap64 (256 * (wrap64 (bt a0 x5_1)))) + (wrap64 (bt a0 (ji6))))))) : Int).toNat), .int .i64 0] (fun _ => True) (fun _ => False) rfl rfl ?aP (fun _ hk => hk.elim) ?aF ?aO ?aB ?aS ?aL ?_; (case aP => exact k39_mkM _ _ _ (⟨a0.extract ((ji18) : Int).toNat ((wrap64 ((ji18) + (wrap64 ((wrap64 (256 * (wrap64 (bt a0 x5_1)))) + (wrap64 (bt a0 (ji6))))))) : Int).toNat, 0⟩ : S39)); (case aB => exact (bl HB)); (case aF => exact (fun _ _ => trivial)); (case aO => exact (by (with_reducible repeat (first | apply Kd.R_alloc | apply Kd.R_drewN | apply Kd.R_drew)); exact HO_4.out)); (case aS => exact (below_size (bl HB))); (case aL => have := LMc22.out; omega); intro v111 w23 ho hb hg hat; rw [← Ny110.out] at ho; have HO112 := Aside0.mk (ho); replace HB := Aside0.mk (hb); clear HO_4; clear ho hb hg hat)); try go_wp2_with (first | ((with_reducible refine gate_builtin (b := .append) (xs := #[.tmp 49, .tmp 59]) rfl ?_); at_builtin; refine Kd.R_append k39 (w0 := w) w.heap.size rfl (.tmp 49) (.tmp 59) 27 39 (.agg #[(.string ⟨#[]⟩), (.int .i64 0)]) 24 rfl Try.underlying27 info39 rfl (by decide) (by omega) u4 x4_1 (⟨a0.extract ((ji18) : Int).toNat ((wrap64 ((ji18) + (wrap64 ((wrap64 (256 * (wrap64 (bt a0 x5_1)))) + (wrap64 (bt a0 (ji6))))))) : Int).toNat, 0⟩ : S39) [.string (a0.extract ((ji18) : Int).toNat ((wrap64 ((ji18) + (wrap64 ((wrap64 (256 * (wrap64 (bt a0 x5_1)))) + (wrap64 (bt a0 (ji6))))))) : Int).toNat), .int .i64 0] (fun _ => True) (fun _ => False) rfl rfl ?aP (fun _ hk => hk.elim) ?aF ?aO ?aB ?aS ?aL ?_; (case aP => exact k39_mkM _ _ _ (⟨a0.extract ((ji18) : Int).toNat ((wrap64 ((ji18) + (wrap64 ((wrap64 (256 * (wrap64 (bt a0 x5_1)))) + (wrap64 (bt a0 (ji6))))))) : Int).toNat, 0⟩ : S39)); (case aB => exact (bl HB)); (case aF => exact (fun _ _ => trivial)); (case aO => exact (by (with_reducible repeat (first | apply Kd.R_alloc | apply Kd.R_drewN | apply Kd.R_drew)); exact HO_4.out)); (case aS => exact (below_size (bl HB))); (case aL => have := LMc22.out; omega); intro v111 w23 ho hb hg hat; rw [← Ny110.out] at ho; have HO112 := Aside0.mk (ho); replace HB := Aside0.mk (hb); clear HO_4; clear ho hb hg hat)))
                                go_roundg kj9
                                case measure => have := HK1.out; have := HJ9.out; omega
                                case rel => exact ⟨(y110), (wrap64 ((ji18) + (wrap64 ((wrap64 (256 * (wrap64 (bt a0 x5_1)))) + (wrap64 (bt a0 (ji6))))))), (by first | (with_reducible rfl) | (simp only [← hji6, ← hji18]; with_reducible rfl) | (simp only [← hji6, ← hji18]; done) | rfl | (simp; done) | (simp only [← hji6, ← hji18] <;> (first | rfl | simp)) | (simp [*]; done)), H', ⟨by have := HK1.out; have := HJ9.out; omega⟩, ⟨by (with_reducible repeat (first | apply Kd.R_alloc | apply Kd.R_drewN | apply Kd.R_drew)); exact HO112.out⟩, ⟨bl HB⟩⟩
                              · rw [if_neg c22] at H
                                exact absurd H (by simp)
                            · rw [if_neg c21] at H
                              exact absurd H (by simp)
                          · rw [if_neg c20] at H
                            exact absurd H (by simp)
                        · rw [if_neg c19] at H
                          exact absurd H (by simp)
              · rw [if_neg c8] at H
                exact absurd H (by simp)
            · rw [if_neg c7] at H
              exact absurd H (by simp)
          · rw [if_neg c4] at H
            exact absurd H (by simp)
        · rw [if_neg c3] at H
          exact absurd H (by simp)
      · rw [if_neg c2] at H
        have c2b0 : decide (2 ≤ (wrap64 ((a0.size : Int) - x5_1))) = false := decide_eq_false c2
        clear c2
        simp only [Option.some.injEq, Prod.mk.injEq] at H
        obtain ⟨rfl, rfl⟩ := H
        go_wp2
        repeat (go_quiet (fail); try go_wp2)
        go_ret2
        exact ⟨_, by first | (with_reducible rfl) | rfl | (simp [errW_none, errW_some] <;> rfl) | (simp [*, errW_none, errW_some] <;> rfl), by (with_reducible repeat (first | apply Kd.R_alloc | apply Kd.R_drewN | apply Kd.R_drew)); exact HO_4.out, bl HB⟩

end Go.Proofs.Yteljllpkjhkanaa.Q
