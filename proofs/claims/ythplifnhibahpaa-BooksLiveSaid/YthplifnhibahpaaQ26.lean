-- Laid by wip/tools/hprint.py, a program of this repo, over the kit's print; not a text of print.sh.
import Derived.Test.YthplifnhibahpaaQ0
import Derived.Test.YthplifnhibahpaaQ19
namespace Go.Proofs.Ythplifnhibahpaa.Q
open Go.RowKit Go.Proofs.Ythplifnhibahpaa.Zip Go.Proofs.YthplifnhibahpaaW.PrintWords Go.Proofs.YthplifnhibahpaaW.PrintLast Go.Proofs.YthplifnhibahpaaW.PrintMore
attribute [local go_sem] max2_int min2_int max_two min_two max_three min_three max_four min_four   -- for this text's walks alone
set_option linter.unusedVariables false
set_option linter.unusedSimpArgs false

/-! ### sandglassref16_Delete: function 22 -/
def sandglassref16_Delete.j0 : Nat → List (S43) → Int → Bool → Option ((List (S43)) × Int)
  | 0, _, _, _ => none
  | k + 1, x0, x1, x17 => if x17 = true then (some (x0, 1)) else (if 0 ≤ x1 then (if x1 < (x0.length : Int) then (if ((rd_T43 x0 x1).f0 = true) then ((some (([] : List (S43)) : List (S43))).bind fun y258 => (if y258.length + x0.length < 2932031007402 then ((some (y258 ++ x0 : List (S43))).bind fun y261 => (if x1 < (y261.length : Int) then (some ((y261.set (x1 : Int).toNat (⟨false, (⟨0, 0, 0, 0⟩ : S25), (rd_T43 x0 x1).f2⟩ : S43)), 0)) else (none))) else (none))) else (some (x0, 5))) else (none)) else (none))
def sandglassref16_Delete.f (k : Nat) (l0 : List (S43)) (a1 : Int) : Option ((List (S43)) × Int) := (sandglassref16_May.f k l0).bind fun t256 => (if t256 = true then (if a1 < 0 then (sandglassref16_Delete.j0 k l0 a1 true) else (sandglassref16_Delete.j0 k l0 a1 (decide (a1 ≥ 8)))) else (sandglassref16_Delete.j0 k l0 a1 true))
theorem sandglassref16_Delete.mono_l : ∀ k, (∀ y0 y1 y2, LeO (sandglassref16_Delete.j0 k y0 y1 y2) (sandglassref16_Delete.j0 (k + 1) y0 y1 y2))
  | 0 => fun _ _ _ r h => by simp [sandglassref16_Delete.j0] at h
  | k + 1 => by
    have ih0 := sandglassref16_Delete.mono_l k
    · intro y0 y1 y2
      unfold sandglassref16_Delete.j0
      repeat' first
      | (with_reducible exact ih0 _ _ _)
      | (with_reducible exact sandglassref16_May.mono _ _)
      | (with_reducible exact LeO.refl _)
      | (with_reducible exact LeO.none _)
      | (with_reducible refine LeO.ite ?_ ?_)
      | (with_reducible refine LeO.bind ?_ (fun _ => ?_))
      | exact ih0 _ _ _
      | exact sandglassref16_May.mono _ _
      | exact LeO.none _
      | refine LeO.ite ?_ ?_
      | refine LeO.bind ?_ (fun _ => ?_)
theorem sandglassref16_Delete.mono : ∀ a0 a1 k, LeO (sandglassref16_Delete.f k a0 a1) (sandglassref16_Delete.f (k + 1) a0 a1) := by
  intro a0 a1 k
  have ih0 := sandglassref16_Delete.mono_l k
  unfold sandglassref16_Delete.f
  repeat' first
      | (with_reducible exact ih0 _ _ _)
      | (with_reducible exact sandglassref16_May.mono _ _)
      | (with_reducible exact LeO.refl _)
      | (with_reducible exact LeO.none _)
      | (with_reducible refine LeO.ite ?_ ?_)
      | (with_reducible refine LeO.bind ?_ (fun _ => ?_))
      | exact ih0 _ _ _
      | exact sandglassref16_May.mono _ _
      | exact LeO.none _
      | refine LeO.ite ?_ ?_
      | refine LeO.bind ?_ (fun _ => ?_)
set_option maxHeartbeats 8000000 in
set_option maxRecDepth 100000 in
theorem sandglassref16_Delete.calls (k : Nat) (P0_ : Nat → Prop) (A0 : Option Addr) (c0 : Nat) (l0 : List (S43)) (a1 : Int) (r1 : List (S43)) (r2 : Int) (w : World) (hs0 : Kd.V k43 43 w w.heap.size (fun k_ => P0_ k_) (.slice A0 l0.length c0) l0) (h : sandglassref16_Delete.f k l0 a1 = some (r1, r2)) :
    Calls Try.prog 22 #[.slice A0 l0.length c0, .int .i64 a1] w fun e w' => ∃ v0_ : Value, e = .returned (.tuple #[v0_, .int .i64 r2]) ∧ Kd.V k43 43 w' w.heap.size (fun k_ => (P0_ k_ ∨ w.heap.size ≤ k_)) v0_ r1 ∧ Below w.heap.size w w' := by
  have hu43 := Try.underlying43
  have HO0 := Aside0.mk (show Kd.V k43 43 w w.heap.size (fun k_ => (P0_ k_ ∨ w.heap.size ≤ k_)) (.slice A0 l0.length c0) l0 from Kd.V_mono hs0 (fun k_ hk => .inl hk))
  have HB := Aside0.mk (Below.refl w.heap.size w)
  have H : ((sandglassref16_May.f k l0).bind fun t256 => (if t256 = true then (if a1 < 0 then (sandglassref16_Delete.j0 k l0 a1 true) else (sandglassref16_Delete.j0 k l0 a1 (decide (a1 ≥ 8)))) else (sandglassref16_Delete.j0 k l0 a1 true))) = some (r1, r2) := h
  clear h
  have HC3 := Aside0.mk H
  clear H
  go_enter Try.func22, Try.ntmps22
  go_upto_region 1 with (fail)
  go_cut [17] (fun v17 wc => ∃ (kq : Nat) (x17_2 : Bool), v17 = .bool x17_2 ∧ Aside0 (sandglassref16_Delete.j0 kq l0 a1 x17_2 = some (r1, r2)) ∧ Aside0 (kq ≤ k) ∧ Aside0 (Kd.V k43 43 wc w.heap.size (fun k_ => (P0_ k_ ∨ w.heap.size ≤ k_)) (.slice A0 l0.length c0) l0) ∧ Aside0 (Below w.heap.size w wc))
  case first =>
    have H := HC3.out
    clear HC3
    replace H := Option.bind_eq_some_iff.mp H
    obtain ⟨t256, A40, H⟩ := H
    have A4 := Aside0.mk A40
    clear A40
    by_cases c5 : t256 = true
    · subst c5
      rw [if_pos rfl] at H
      by_cases c6 : a1 < 0
      · rw [if_pos c6] at H
        have c6b0 : decide (a1 < 0) = true := decide_eq_true c6
        clear c6
        (first | rw [c6b0] | (simp only [i64_w, i32_w]; rw [c6b0]) | skip)
        have H' := Aside0.mk H
        clear H
        go_wp2_with (first | ((with_reducible refine gate_callee (f := 12) rfl ?_); refine goesL_ (some 8) rfl rfl Try.func12 (by kernel_rfl) rfl #[.slice A0 l0.length c0] rfl (by (try simp only [List.map_toArray, List.map_cons, List.map_nil]); first | done | rfl | (simp only [List.length_drop, List.length_take]; rfl)) ?_; (with_reducible refine (sandglassref16_May.calls k _ _ l0 true _ ?side1 ?side2 A4.out).mono ?_); (case side1 => repeat (first | exact (Kd.V_reads' HO0.out).2.2 | (with_reducible refine Kd.C_alloc ?_ _) | (with_reducible refine Kd.C_drewN ?_ _) | (with_reducible refine Kd.C_drew ?_))); (case side2 => exact (Kd.V_reads' HO0.out).2.1); rintro e w7 ⟨rfl, hb⟩; refine ⟨_, rfl, ?_⟩; replace HO0 := vb HO0 hb; replace HB := Aside0.mk (below_step (bl HB) hb); (try clear hb); (try clear hb2); (try clear hk); (try clear hi)))
        go_meet
        case rel => exact ⟨_, (true), (by first | (with_reducible rfl) | rfl | (simp; done) | (simp [*]; done)), H', ⟨by first | omega | exact Nat.le_refl _⟩, ⟨by (with_reducible repeat (first | apply Kd.V_alloc | apply Kd.V_drewN | apply Kd.V_drew)); exact HO0.out⟩, ⟨bl HB⟩⟩
      · rw [if_neg c6] at H
        have c6b0 : decide (a1 < 0) = false := decide_eq_false c6
        clear c6
        (first | rw [c6b0] | (simp only [i64_w, i32_w]; rw [c6b0]) | skip)
        have H' := Aside0.mk H
        clear H
        go_wp2_with (first | ((with_reducible refine gate_callee (f := 12) rfl ?_); refine goesL_ (some 8) rfl rfl Try.func12 (by kernel_rfl) rfl #[.slice A0 l0.length c0] rfl (by (try simp only [List.map_toArray, List.map_cons, List.map_nil]); first | done | rfl | (simp only [List.length_drop, List.length_take]; rfl)) ?_; (with_reducible refine (sandglassref16_May.calls k _ _ l0 true _ ?side1 ?side2 A4.out).mono ?_); (case side1 => repeat (first | exact (Kd.V_reads' HO0.out).2.2 | (with_reducible refine Kd.C_alloc ?_ _) | (with_reducible refine Kd.C_drewN ?_ _) | (with_reducible refine Kd.C_drew ?_))); (case side2 => exact (Kd.V_reads' HO0.out).2.1); rintro e w8 ⟨rfl, hb⟩; refine ⟨_, rfl, ?_⟩; replace HO0 := vb HO0 hb; replace HB := Aside0.mk (below_step (bl HB) hb); (try clear hb); (try clear hb2); (try clear hk); (try clear hi)))
        go_meet
        case rel => exact ⟨_, (decide (a1 ≥ 8)), (by first | (with_reducible rfl) | rfl | (simp; done) | (simp [*]; done)), H', ⟨by first | omega | exact Nat.le_refl _⟩, ⟨by (with_reducible repeat (first | apply Kd.V_alloc | apply Kd.V_drewN | apply Kd.V_drew)); exact HO0.out⟩, ⟨bl HB⟩⟩
    · replace c5 := Bool.eq_false_iff.mpr c5
      subst c5
      rw [if_neg (show ¬ (false = true) by decide)] at H
      have H' := Aside0.mk H
      clear H
      go_wp2_with (first | ((with_reducible refine gate_callee (f := 12) rfl ?_); refine goesL_ (some 8) rfl rfl Try.func12 (by kernel_rfl) rfl #[.slice A0 l0.length c0] rfl (by (try simp only [List.map_toArray, List.map_cons, List.map_nil]); first | done | rfl | (simp only [List.length_drop, List.length_take]; rfl)) ?_; (with_reducible refine (sandglassref16_May.calls k _ _ l0 false _ ?side1 ?side2 A4.out).mono ?_); (case side1 => repeat (first | exact (Kd.V_reads' HO0.out).2.2 | (with_reducible refine Kd.C_alloc ?_ _) | (with_reducible refine Kd.C_drewN ?_ _) | (with_reducible refine Kd.C_drew ?_))); (case side2 => exact (Kd.V_reads' HO0.out).2.1); rintro e w9 ⟨rfl, hb⟩; refine ⟨_, rfl, ?_⟩; replace HO0 := vb HO0 hb; replace HB := Aside0.mk (below_step (bl HB) hb); (try clear hb); (try clear hb2); (try clear hk); (try clear hi)))
      go_meet
      case rel => exact ⟨_, (true), (by first | (with_reducible rfl) | rfl | (simp; done) | (simp [*]; done)), H', ⟨by first | omega | exact Nat.le_refl _⟩, ⟨by (with_reducible repeat (first | apply Kd.V_alloc | apply Kd.V_drewN | apply Kd.V_drew)); exact HO0.out⟩, ⟨bl HB⟩⟩
  case rest =>
    clear HC3
    try clear c1
    try clear c2
    try clear p2
    try clear c5
    try clear c6
    try clear c6b0
    obtain ⟨kq, x17_2, rfl, HA, HJ2, HO_0, HB⟩ := hcut
    cases kq with
    | zero => exact absurd HA.out (by simp [sandglassref16_Delete.j0])
    | succ kj2 =>
      have H := HA.out
      clear HA
      simp only [sandglassref16_Delete.j0] at H
      by_cases c10 : x17_2 = true
      · subst c10
        rw [if_pos rfl] at H
        simp only [Option.some.injEq, Prod.mk.injEq] at H
        obtain ⟨rfl, rfl⟩ := H
        go_wp2
        go_ret2
        exact ⟨_, by first | (with_reducible rfl) | rfl | (simp [errW_none, errW_some] <;> rfl) | (simp [*, errW_none, errW_some] <;> rfl), by (with_reducible repeat (first | apply Kd.V_alloc | apply Kd.V_drewN | apply Kd.V_drew)); exact HO_0.out, bl HB⟩
      · replace c10 := Bool.eq_false_iff.mpr c10
        subst c10
        rw [if_neg (show ¬ (false = true) by decide)] at H
        by_cases c11 : 0 ≤ a1
        · rw [if_pos c11] at H
          have c11b0 : decide (0 ≤ a1) = true := decide_eq_true c11
          clear c11
          by_cases c12 : a1 < (l0.length : Int)
          · rw [if_pos c12] at H
            have c12b0 : decide (a1 < (l0.length : Int)) = true := decide_eq_true c12
            clear c12
            obtain ⟨bq13, hbq13⟩ : ∃ b_ : Bool, b_ = ((rd_T43 l0 a1).f0) := ⟨_, rfl⟩
            replace H : (if (bq13 = true) then ((some (([] : List (S43)) : List (S43))).bind fun y258 => (if y258.length + l0.length < 2932031007402 then ((some (y258 ++ l0 : List (S43))).bind fun y261 => (if a1 < (y261.length : Int) then (some ((y261.set (a1 : Int).toNat (⟨false, (⟨0, 0, 0, 0⟩ : S25), (rd_T43 l0 a1).f2⟩ : S43)), 0)) else (none))) else (none))) else (some (l0, 5))) = some (r1, r2) := by rw [← hbq13] at H; exact H
            have Nbq13 := Aside0.mk hbq13
            clear hbq13
            by_cases c14 : (bq13 = true)
            · subst c14
              rw [if_pos rfl] at H
              obtain ⟨y258, hy258⟩ : ∃ y_ : List (S43), y_ = (([] : List (S43))) := ⟨_, rfl⟩
              replace H : (if y258.length + l0.length < 2932031007402 then ((some (y258 ++ l0 : List (S43))).bind fun y261 => (if a1 < (y261.length : Int) then (some ((y261.set (a1 : Int).toNat (⟨false, (⟨0, 0, 0, 0⟩ : S25), (rd_T43 l0 a1).f2⟩ : S43)), 0)) else (none))) else (none)) = some (r1, r2) := by first | (rw [hy258]; with_reducible exact H) | (have H2_ := (Option.bind_some _ _).symm.trans H; rw [hy258]; with_reducible exact H2_) | (have H2_ := (Option.bind_some _ _).symm.trans H; with_reducible exact H2_) | with_reducible exact H | (rw [hy258]; exact H) | exact H
              have Ny258 := Aside0.mk hy258
              clear hy258
              by_cases c15 : y258.length + l0.length < 2932031007402
              · rw [if_pos c15] at H
                have LMc15 := Aside0.mk c15
                clear c15
                obtain ⟨y261, hy261⟩ : ∃ y_ : List (S43), y_ = (y258 ++ l0) := ⟨_, rfl⟩
                replace H : (if a1 < (y261.length : Int) then (some ((y261.set (a1 : Int).toNat (⟨false, (⟨0, 0, 0, 0⟩ : S25), (rd_T43 l0 a1).f2⟩ : S43)), 0)) else (none)) = some (r1, r2) := by first | (rw [hy261]; with_reducible exact H) | (have H2_ := (Option.bind_some _ _).symm.trans H; rw [hy261]; with_reducible exact H2_) | (have H2_ := (Option.bind_some _ _).symm.trans H; with_reducible exact H2_) | with_reducible exact H | (rw [hy261]; exact H) | exact H
                have Ny261 := Aside0.mk hy261
                clear hy261
                by_cases c16 : a1 < (y261.length : Int)
                · rw [if_pos c16] at H
                  have c16b0 : decide (a1 < (y261.length : Int)) = true := decide_eq_true c16
                  clear c16
                  obtain ⟨y265, hy265⟩ : ∃ y_ : List (S43), y_ = (y261.set (a1 : Int).toNat (⟨false, (⟨0, 0, 0, 0⟩ : S25), (rd_T43 l0 a1).f2⟩ : S43)) := ⟨_, rfl⟩
                  replace H : (some (y265, 0)) = some (r1, r2) := by first | (rw [hy265]; with_reducible exact H) | (have H2_ := (Option.bind_some _ _).symm.trans H; rw [hy265]; with_reducible exact H2_) | (have H2_ := (Option.bind_some _ _).symm.trans H; with_reducible exact H2_) | with_reducible exact H | (rw [hy265]; exact H) | exact H
                  have Ny265 := Aside0.mk hy265
                  clear hy265
                  simp only [Option.some.injEq, Prod.mk.injEq] at H
                  obtain ⟨rfl, rfl⟩ := H
                  have p257 : 0 ≤ (a1 : Int) := of_decide_eq_true (by first | (with_reducible assumption) | assumption)
                  have q257 : a1 < (l0.length : Int) := of_decide_eq_true (by first | (with_reducible assumption) | assumption)
                  obtain ⟨ad257, e257, hx257_0, hx257_1, hx257_2, hx257_3, hx257_4, hx257_5⟩ := at_T43 (Kd.V_reads' HO_0.out).2.2 a1 p257 q257
                  (try rw [← Nbq13.out] at hx257_0)
                  cases e257
                  replace p257 := eq_true p257
                  replace q257 := eq_true q257
                  go_wp2_with (first | ((with_reducible refine gate_dst (N := 26) rfl ?_); refine Kd.R_lit k43 _ 43 ?hg (N := 26) ?hd (xs := ([] : List (S43))) (inner := []) (ok := fun _ => True) (okp := fun _ => True) ?hr ?hp (fun _ hk => hk) trivial (Below.refl _ _) (Nat.le_refl _) (by simp) ?_; (case hd => rfl); (case hg => rfl); (case hr => first | (go_simp; done) | (go_simp; rfl)); (case hp => exact (Reps.none _ _)); intro v259 w18 ho19 hb hg_ hnew_; clear hg_ hnew_; (first | rw [← Ny258.out] at ho19 | (simp only [Int.reduceToNat] at ho19; rw [← Ny258.out] at ho19)); have HO260 := Aside0.mk (Kd.R_lower (Kd.R_newM (M := fun k_ => (w.heap.size ≤ k_)) ho19 (below_size (bl HB)) (fun k_ h_ => h_)) (below_size (bl HB))); replace HO_0 := Aside0.mk (Kd.V_elder' (by (with_reducible repeat (first | apply Kd.V_alloc | apply Kd.V_drewN | apply Kd.V_drew)); exact HO_0.out) (Kd.R_base ho19) hb); replace HB := Aside0.mk (below_step (bl HB) hb); clear hb ho19) | ((with_reducible refine gate_builtin (b := .append) (xs := #[.tmp 26, .tmp 27]) rfl ?_); at_builtin; refine Kd.R_append_rows k43 (w0 := w) w.heap.size rfl (.tmp 26) (.tmp 27) 22 43 (.agg #[(.bool false), (.int .i64 0), (.int .i64 0), (.int .i64 0), (.int .i64 0), (.int .i64 0)]) 48 rfl Try.underlying22 info43 rfl (by decide) (by omega) v259 y258 l0 _ _ _ (fun k_ => (w.heap.size ≤ k_)) (fun _ => False) rfl rfl ?aO ?aR (fun _ _ h => h) (fun _ h => h.elim) ?aF ?aB ?aS ?aL ?_; (case aR => repeat (first | exact (Kd.V_reads' HO_0.out).2.2 | (with_reducible refine Kd.C_alloc ?_ _) | (with_reducible refine Kd.C_drewN ?_ _) | (with_reducible refine Kd.C_drew ?_))); (case aB => exact (bl HB)); (case aF => exact (fun k_ hk => (Nat.le_trans (below_size (bl HB)) hk))); (case aO => exact (by (with_reducible repeat (first | apply Kd.R_alloc | apply Kd.R_drewN | apply Kd.R_drew)); exact Kd.R_mono HO260.out (fun _ hk => hk.1))); (case aS => exact (below_size (bl HB))); (case aL => have := LMc15.out; omega); intro v262 w20 ho hb hg hat; rw [← Ny261.out] at ho; have HO263 := Aside0.mk (ho); replace HO_0 := Aside0.mk (Kd.V_afterv (ok := (fun k_ => (P0_ k_ ∨ w.heap.size ≤ k_))) (by (with_reducible repeat (first | apply Kd.V_alloc | apply Kd.V_drewN | apply Kd.V_drew)); exact HO_0.out) hg hat); replace HB := Aside0.mk (hb); clear HO260; clear ho hb hg hat; have p264 : 0 ≤ (a1 : Int) := of_decide_eq_true (by first | (with_reducible assumption) | assumption); have q264 : a1 < (l0.length : Int) := of_decide_eq_true (by first | (with_reducible assumption) | assumption); obtain ⟨ad264, e264, hx264_0, hx264_1, hx264_2, hx264_3, hx264_4, hx264_5⟩ := at_T43 (Kd.V_reads' HO_0.out).2.2 a1 p264 q264; (try rw [← Nbq13.out] at hx264_0); obtain rfl : ad257 = ad264 := (by injection e264); replace p264 := eq_true p264; replace q264 := eq_true q264; have p17 : 0 ≤ (a1 : Int) := of_decide_eq_true (by first | (with_reducible assumption) | assumption); have q17 : (a1 : Int) < ((y261.length : Int) : Int) := of_decide_eq_true (by first | (with_reducible assumption) | assumption); obtain ⟨go17, co17, eo17, gb17, gl17, cl17, HG17⟩ := Kd.R_form HO263.out (by omega); (first | cases eo17 | (injection eo17 with ea_ en_ ec_; (first | subst ea_ | (injection ea_ with ea_; subst ea_)); subst ec_; clear en_)); have GB17 := Aside0.mk gb17; have GG17 := Aside0.mk HG17; clear gb17 gl17 HG17; obtain ⟨ce17, hcl17, hM17, hcc17, hfr17⟩ := Kd.R_elem HO263.out z43 (a1 : Int) p17 q17; obtain rfl := k43_openM hM17; have hx17_0 : w20.cell? ⟨go17, (a1 : Int).toNat * 6, none⟩ = some (.bool ((rd_T43 y261 a1).f0)) := hcc17 0 _ rfl; have hx17_1 : w20.cell? ⟨go17, (a1 : Int).toNat * 6 + 1, none⟩ = some (.int .i64 ((rd_T43 y261 a1).f1.f0)) := hcc17 1 _ rfl; have hx17_2 : w20.cell? ⟨go17, (a1 : Int).toNat * 6 + 2, none⟩ = some (.int .i64 ((rd_T43 y261 a1).f1.f1)) := hcc17 2 _ rfl; have hx17_3 : w20.cell? ⟨go17, (a1 : Int).toNat * 6 + 3, none⟩ = some (.int .i64 ((rd_T43 y261 a1).f1.f2)) := hcc17 3 _ rfl; have hx17_4 : w20.cell? ⟨go17, (a1 : Int).toNat * 6 + 4, none⟩ = some (.int .i64 ((rd_T43 y261 a1).f1.f3)) := hcc17 4 _ rfl; have hx17_5 : w20.cell? ⟨go17, (a1 : Int).toNat * 6 + 5, none⟩ = some (.int .i64 ((rd_T43 y261 a1).f2)) := hcc17 5 _ rfl; have hf17_0 : w20.frozen? ⟨go17, (a1 : Int).toNat * 6, none⟩ = false := hfr17 0; have hf17_1 : w20.frozen? ⟨go17, (a1 : Int).toNat * 6 + 1, none⟩ = false := hfr17 1; have hf17_2 : w20.frozen? ⟨go17, (a1 : Int).toNat * 6 + 2, none⟩ = false := hfr17 2; have hf17_3 : w20.frozen? ⟨go17, (a1 : Int).toNat * 6 + 3, none⟩ = false := hfr17 3; have hf17_4 : w20.frozen? ⟨go17, (a1 : Int).toNat * 6 + 4, none⟩ = false := hfr17 4; have hf17_5 : w20.frozen? ⟨go17, (a1 : Int).toNat * 6 + 5, none⟩ = false := hfr17 5; clear hcl17 hcc17 hfr17 hM17; replace p17 := eq_true p17; replace q17 := eq_true q17; have HX21 := Aside0.mk (show Kd.R k43 43 w20 w.heap.size (fun k_ => (w.heap.size ≤ k_)) (.slice (some ⟨go17, 0, none⟩) y261.length co17) y261 from (by (with_reducible repeat (first | apply Kd.R_alloc | apply Kd.R_drewN | apply Kd.R_drew)); exact HO263.out)); obtain ⟨ce21, hcl21, hM21, hcc21, hfr21⟩ := Kd.R_elem HX21.out z43 (a1 : Int) (of_decide_eq_true (by first | (with_reducible assumption) | assumption)) (by have h_ : (a1 : Int) < ((y261.length : Int) : Int) := of_decide_eq_true (by first | (with_reducible assumption) | assumption); first | exact h_ | (have e_ := (Kd.R_reads' HO263.out).1; omega) | simpa using h_); obtain rfl := k43_openM hM21; have HP21 := Kd.R_seg HX21.out (a1 : Int) (of_decide_eq_true (by first | (with_reducible assumption) | assumption)) (by have h_ : (a1 : Int) < ((y261.length : Int) : Int) := of_decide_eq_true (by first | (with_reducible assumption) | assumption); first | exact h_ | (have e_ := (Kd.R_reads' HO263.out).1; omega) | simpa using h_) (seg := [.bool false, .int .i64 0, .int .i64 0, .int .i64 0, .int .i64 0, .int .i64 ((rd_T43 l0 a1).f2)]) (j := 0) hcl21 hcc21 (show 6 ≤ 6 from by decide) (x' := (⟨false, (⟨0, 0, 0, 0⟩ : S25), (rd_T43 l0 a1).f2⟩ : S43)) (k43_mkM _ _ _ (⟨false, (⟨0, 0, 0, 0⟩ : S25), (rd_T43 l0 a1).f2⟩ : S43) ) (fun _ hk => hk); have hx21_0 := hcc21 0 _ rfl; (try simp only [show (k43).sz = 6 from rfl, Nat.mul_one, Nat.add_zero] at hx21_0); have hf21_0 := hfr21 0; (try simp only [show (k43).sz = 6 from rfl, Nat.mul_one, Nat.add_zero] at hf21_0); have hx21_1 := hcc21 1 _ rfl; (try simp only [show (k43).sz = 6 from rfl, Nat.mul_one, Nat.add_zero] at hx21_1); have hf21_1 := hfr21 1; (try simp only [show (k43).sz = 6 from rfl, Nat.mul_one, Nat.add_zero] at hf21_1); have hx21_2 := hcc21 2 _ rfl; (try simp only [show (k43).sz = 6 from rfl, Nat.mul_one, Nat.add_zero] at hx21_2); have hf21_2 := hfr21 2; (try simp only [show (k43).sz = 6 from rfl, Nat.mul_one, Nat.add_zero] at hf21_2); have hx21_3 := hcc21 3 _ rfl; (try simp only [show (k43).sz = 6 from rfl, Nat.mul_one, Nat.add_zero] at hx21_3); have hf21_3 := hfr21 3; (try simp only [show (k43).sz = 6 from rfl, Nat.mul_one, Nat.add_zero] at hf21_3); have hx21_4 := hcc21 4 _ rfl; (try simp only [show (k43).sz = 6 from rfl, Nat.mul_one, Nat.add_zero] at hx21_4); have hf21_4 := hfr21 4; (try simp only [show (k43).sz = 6 from rfl, Nat.mul_one, Nat.add_zero] at hf21_4); have hx21_5 := hcc21 5 _ rfl; (try simp only [show (k43).sz = 6 from rfl, Nat.mul_one, Nat.add_zero] at hx21_5); have hf21_5 := hfr21 5; (try simp only [show (k43).sz = 6 from rfl, Nat.mul_one, Nat.add_zero] at hf21_5); clear hcl21 hcc21 hfr21 hM21) | ((with_reducible refine gate_store (t := 43) (p := 37) rfl ?_); refine store_event (t := 43) (p := 37) (v := ?vo_w22) (w1 := ((((((w20.setCell ⟨go17, (a1 : Int).toNat * 6, none⟩ (.bool false)).setCell ⟨go17, (a1 : Int).toNat * 6 + 1, none⟩ (.int .i64 0)).setCell ⟨go17, (a1 : Int).toNat * 6 + 2, none⟩ (.int .i64 0)).setCell ⟨go17, (a1 : Int).toNat * 6 + 3, none⟩ (.int .i64 0)).setCell ⟨go17, (a1 : Int).toNat * 6 + 4, none⟩ (.int .i64 0)).setCell ⟨go17, (a1 : Int).toNat * 6 + 5, none⟩ (.int .i64 ((rd_T43 l0 a1).f2)))) ?hg ?ho ?hn ?hr ?_; (case ho => rfl); (case hg => rfl); (case hn => rfl); (case hr => first | (go_simp; done) | (go_simp; rfl)); intro w22 hw; have hg : w20.grownBy w22 (some go17) := (by rw [hw]; exact HP21.2); have hp_ : Kd.R k43 43 w22 w.heap.size (fun k_ => (w.heap.size ≤ k_)) (.slice (some ⟨go17, 0, none⟩) y261.length co17) y265 := (by rw [hw, Ny265.out]; exact HP21.1); clear HP21; replace HO_0 := Aside0.mk (Kd.V_afterv (v := (.slice (some ⟨go17, 0, none⟩) y261.length co17)) (v1 := (.slice (some ⟨go17, 0, none⟩) y261.length co17)) (ok := (fun k_ => (P0_ k_ ∨ w.heap.size ≤ k_))) (by (with_reducible repeat (first | apply Kd.V_alloc | apply Kd.V_drewN | apply Kd.V_drew)); exact HO_0.out) hg (.inl rfl)); replace HO263 := Aside0.mk (hp_); replace HB := Aside0.mk ((by rw [hw]; exact below_set (below_set (below_set (below_set (below_set (below_set (HB.out) GB17.out) GB17.out) GB17.out) GB17.out) GB17.out) GB17.out : Below w.heap.size w w22)); clear hg hw hp_))
                  go_ret2
                  exact ⟨_, by first | (with_reducible rfl) | rfl | (simp [errW_none, errW_some] <;> rfl) | (simp [*, errW_none, errW_some] <;> rfl), Kd.V_mono (Kd.R_V (by (with_reducible repeat (first | apply Kd.R_alloc | apply Kd.R_drewN | apply Kd.R_drew)); exact HO263.out)) (fun k_ hk => by first | exact ⟨(.inr (hk.1)), hk.2⟩ | exact (.inr (hk))), bl HB⟩
                · rw [if_neg c16] at H
                  exact absurd H (by simp)
              · rw [if_neg c15] at H
                exact absurd H (by simp)
            · replace c14 := Bool.eq_false_iff.mpr c14
              subst c14
              rw [if_neg (show ¬ (false = true) by decide)] at H
              simp only [Option.some.injEq, Prod.mk.injEq] at H
              obtain ⟨rfl, rfl⟩ := H
              have p257 : 0 ≤ (a1 : Int) := of_decide_eq_true (by first | (with_reducible assumption) | assumption)
              have q257 : a1 < (l0.length : Int) := of_decide_eq_true (by first | (with_reducible assumption) | assumption)
              obtain ⟨ad257, e257, hx257_0, hx257_1, hx257_2, hx257_3, hx257_4, hx257_5⟩ := at_T43 (Kd.V_reads' HO_0.out).2.2 a1 p257 q257
              (try rw [← Nbq13.out] at hx257_0)
              cases e257
              replace p257 := eq_true p257
              replace q257 := eq_true q257
              go_wp2
              go_ret2
              exact ⟨_, by first | (with_reducible rfl) | rfl | (simp [errW_none, errW_some] <;> rfl) | (simp [*, errW_none, errW_some] <;> rfl), by (with_reducible repeat (first | apply Kd.V_alloc | apply Kd.V_drewN | apply Kd.V_drew)); exact HO_0.out, bl HB⟩
          · rw [if_neg c12] at H
            exact absurd H (by simp)
        · rw [if_neg c11] at H
          exact absurd H (by simp)

end Go.Proofs.Ythplifnhibahpaa.Q
