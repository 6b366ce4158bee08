-- Laid by wip/tools/hprint.py, a program of this repo, over the kit's print; not a text of print.sh.
import Derived.Test.YteljllpkjhkanaaQ0
import Derived.Test.YteljllpkjhkanaaQ3
import Derived.Test.YteljllpkjhkanaaQ4
import Derived.Test.YteljllpkjhkanaaQ5
import Derived.Test.YteljllpkjhkanaaQ6
import Derived.Test.YteljllpkjhkanaaQ7
import Derived.Test.YteljllpkjhkanaaQ10
namespace Go.Proofs.Yteljllpkjhkanaa.Q
open Go.RowKit Go.Proofs.Yteljllpkjhkanaa.Zip Go.Proofs.YteljllpkjhkanaaW.PrintWords Go.Proofs.YteljllpkjhkanaaW.PrintLast Go.Proofs.YteljllpkjhkanaaW.PrintMore
attribute [local go_sem] max2_int min2_int max_two min_two max_three min_three max_four min_four   -- for this text's walks alone
set_option linter.unusedVariables false
set_option linter.unusedSimpArgs false

/-! ### sandglasslaw20_FrameCuts: given by hand -/
def sandglasslaw20_FrameCuts.e (k : Nat) (s : ByteArray) (whole : List S37) (al : ByteArray) (parts : List S37) (rl : ByteArray) (sk : Int) (m : Bool) (at_ : Nat) : Option Bool := (frame_Reader_Feed.f k rl sk m (s.extract at_ s.size)).bind fun u => if parts.length + u.2.2.2.length ≤ 1000000000000 then (if al.size = u.1.size ∧ whole.map (fun q => (q.f0, q.f1)) = (parts ++ u.2.2.2).map (fun q => (q.f0, q.f1)) then some true else none) else none
def sandglasslaw20_FrameCuts.l0 : Nat → ByteArray → List Int → List S37 → ByteArray → List S37 → ByteArray → Int → Bool → Nat → Nat → Option Bool
  | 0, _, _, _, _, _, _, _, _, _, _ => none
  | k + 1, s, cuts, whole, al, parts, rl, sk, m, at_, j => if j < cuts.length then (if (at_ : Int) < rd cuts (j : Int) ∧ rd cuts (j : Int) ≤ (s.size : Int) then ((frame_Reader_Feed.f k rl sk m (s.extract at_ (rd cuts (j : Int)).toNat)).bind fun u => if parts.length + u.2.2.2.length ≤ 1000000000000 then sandglasslaw20_FrameCuts.l0 k s cuts whole al (parts ++ u.2.2.2) u.1 u.2.1 u.2.2.1 (rd cuts (j : Int)).toNat (j + 1) else none) else sandglasslaw20_FrameCuts.l0 k s cuts whole al parts rl sk m at_ (j + 1)) else sandglasslaw20_FrameCuts.e k s whole al parts rl sk m at_
def sandglasslaw20_FrameCuts.f (k : Nat) (s : ByteArray) (l1 : List Int) : Option Bool := if s.size > 4000 ∨ l1.length > 40 then some true else (frame_Reader_Feed.f k ByteArray.empty 0 false s).bind fun a => sandglasslaw20_FrameCuts.l0 k s l1 a.2.2.2 a.1 [] ByteArray.empty 0 false 0 0
theorem map_sameC {a b : List S37} (h : a.map (fun q => (q.f0, q.f1)) = b.map (fun q => (q.f0, q.f1))) : a = b := by
  induction a generalizing b with
  | nil => cases b with
    | nil => rfl
    | cons x l => simp at h
  | cons y m ih => cases b with
    | nil => simp at h
    | cons x l =>
      simp only [List.map_cons, List.cons.injEq, Prod.mk.injEq] at h
      obtain ⟨⟨h1, h2⟩, h3⟩ := h
      rw [ih h3]
      cases x; cases y
      simp only at h1 h2
      rw [h1, h2]
theorem rowC {W W' : World} {g n0 : Nat} {v : Value} {xs : List S37} (hr : Kd.R k37 37 W 0 (fun k_ => n0 ≤ k_) v xs) (hg : g < n0) (h : W.grownBy W' (some g)) : Kd.R k37 37 W' 0 (fun k_ => n0 ≤ k_) v xs :=
  Kd.R_step hr (fun j hj hlt => h.block j hlt (by intro e; injection e with e; omega))
theorem belC {w W W' : World} {g : Nat} (h : Below w.heap.size w W) (hg : w.heap.size ≤ g) (k : W.grownBy W' (some g)) : Below w.heap.size w W' := h.grown k h.size (fun q e => by injection e with e; omega)
theorem blkC {W W' : World} {b : Nat} {row : Option Nat} {o : Obj} (h : W.heap[b]? = some o) (k : W.grownBy W' row) (hne : ∀ q, row = some q → b ≠ q) : W'.heap[b]? = some o := (k.block b (Array.getElem?_eq_some_iff.1 h).1 (by intro e; exact hne b e.symm rfl)).trans h
set_option maxHeartbeats 1000000 in
theorem sandglasslaw20_FrameCuts.calls0 (k : Nat) (s : ByteArray) (A1 : Option Addr) (c1 : Nat) (l1 : List Int) (r : Bool) (w : World) (hr1 : Kd.C (Kd.int .i64) w A1 l1.length l1) (hc1 : l1.length ≤ c1) (h : sandglasslaw20_FrameCuts.f k s l1 = some r) :
    Calls Try.prog 4 #[.string s, .slice A1 l1.length c1] w fun e w' => e = .returned (.bool r) ∧ Below w.heap.size w w' := by
  have HR1 := Aside0.mk hr1
  clear hr1 hc1
  unfold sandglasslaw20_FrameCuts.f at h
  by_cases hs : s.size > 4000
  · have d40 : decide ((4000 : Int) < (s.size : Int)) = true := decide_eq_true (by omega)
    rw [if_pos (Or.inl hs)] at h
    obtain rfl := Option.some.inj h
    clear h hs
    go_enter Try.func4, Try.ntmps4
    go_wp2_with (go_at_call 6; refine (sandglasslaw20_live.calls _).mono ?_; rintro e w1 ⟨rfl, hb⟩)
    go_ret
    exact ⟨rfl, hb⟩
  have d40 : decide ((4000 : Int) < (s.size : Int)) = false := decide_eq_false (by omega)
  by_cases ht : l1.length > 40
  · have d41 : decide ((40 : Int) < (l1.length : Int)) = true := decide_eq_true (by omega)
    rw [if_pos (Or.inr ht)] at h
    obtain rfl := Option.some.inj h
    clear h hs ht
    go_enter Try.func4, Try.ntmps4
    go_wp2_with (go_at_call 6; refine (sandglasslaw20_live.calls _).mono ?_; rintro e w1 ⟨rfl, hb⟩)
    go_ret
    exact ⟨rfl, hb⟩
  have d41 : decide ((40 : Int) < (l1.length : Int)) = false := decide_eq_false (by omega)
  rw [if_neg (by omega)] at h
  obtain ⟨⟨a1, a2, a3, a4⟩, ha, h⟩ := Option.bind_eq_some_iff.1 h
  dsimp only at h ha
  have H := Aside0.mk h
  have HFA := Aside0.mk ha
  have HS := Aside0.mk hs
  have HT := Aside0.mk ht
  clear h hs ht ha
  have inf : (Try.prog.info? 37).map (fun i => (i.zero, i.size, i.bytes)) = some (some (.agg #[(.string ⟨#[]⟩), (.int .i64 0)]), 2, 24) := by kernel_rfl
  go_enter Try.func4, Try.ntmps4
  go_upto_region 4 with (go_at_call 8; refine (frame_New.calls _).mono ?_; rintro e w1 ⟨rfl, rfl⟩)
  go_upto_region 7 with (go_at_call 8; refine (frame_New.calls _).mono ?_; rintro e w2 ⟨rfl, rfl⟩)
  have HA1 := Aside0.mk (show ((w.alloc (rdO ⟨#[]⟩ 0 false)).alloc (rdO ⟨#[]⟩ 0 false)).heap[w.heap.size]? = some (rdO ByteArray.empty 0 false) from blk_alloc (blk_new w (rdO ⟨#[]⟩ 0 false)) (rdO ⟨#[]⟩ 0 false))
  have HA2 := Aside0.mk (show ((w.alloc (rdO ⟨#[]⟩ 0 false)).alloc (rdO ⟨#[]⟩ 0 false)).heap[w.heap.size + 1]? = some (rdO ByteArray.empty 0 false) from blk_at' (by simp) (rdO ⟨#[]⟩ 0 false))
  have HBW := Aside0.mk (((Below.refl w.heap.size w).alloc (Nat.le_refl _) (rdO ⟨#[]⟩ 0 false)).alloc (by simp) (rdO ⟨#[]⟩ 0 false))
  have HL2 := Aside0.mk (blk_lt (show ((w.alloc (rdO ⟨#[]⟩ 0 false)).alloc (rdO ⟨#[]⟩ 0 false)).heap[w.heap.size + 1]? = some (.cells _ _ _) from HA2.out))
  go_upto_region 8 with (go_at_call 11; refine (frame_Reader_Feed.calls k w.heap.size ByteArray.empty 0 false s a1 a2 a3 a4 _ HA1.out (by decide) (by decide) HFA.out).mono ?_; rintro e w3 ⟨vx, rfl, ho, hb, hg, hk⟩; obtain ⟨Ax, cx, rfl⟩ := Kd.R_slice ho; have HX1 := Aside0.mk hb; have HX2 := Aside0.mk (blkC HA2.out hg (fun q e => by injection e with e; omega)); have HXB := Aside0.mk (belC HBW.out (Nat.le_refl _) hg); have HL3 := Aside0.mk (Nat.lt_of_lt_of_le HL2.out hg.size); have HXO := Aside0.mk ho; clear ho hb hg hk)
  have HB0 := HX2
  have HG0 := Aside0.mk (gr_refl w3 (w.heap.size + 1))
  clear HA1 HA2 HBW
  go_wp2
  go_loopg [8, 9, 10] k (fun kq v8 v9 v10 w' => ∃ (parts : List S37) (rl : ByteArray) (sk : Int) (m : Bool) (at_ j : Nat), v9 = .int .i64 at_ ∧ v10 = .int .i64 j ∧ Aside0 (sandglasslaw20_FrameCuts.l0 kq s l1 a4 a1 parts rl sk m at_ j = some r) ∧ Aside0 (w'.heap[w.heap.size + 1]? = some (rdO rl sk m)) ∧ Aside0 (0 ≤ sk ∧ sk ≤ 65536) ∧ Aside0 (j ≤ l1.length ∧ at_ ≤ s.size) ∧ Aside0 (w3.grownBy w' (some (w.heap.size + 1))) ∧ Aside0 (Kd.R k37 37 w' 0 (fun k_ => w3.heap.size ≤ k_) v8 parts))
  case atStart => exact ⟨[], _, _, _, 0, 0, rfl, rfl, H, HB0, ⟨by decide⟩, ⟨Nat.zero_le _, Nat.zero_le _⟩, HG0, ⟨Kd.R_nil _ _ _ _ _⟩⟩
  case round =>
    clear H HB0 HG0 HX2
    obtain ⟨parts, rl, sk, m, at_, j, rfl, rfl, HA, HBB, HSK, HJ, HG, HPA⟩ := hrel
    cases gk with
    | zero => exact absurd HA.out (by simp [sandglasslaw20_FrameCuts.l0])
    | succ k1 =>
      have H := HA.out
      clear HA
      simp only [sandglasslaw20_FrameCuts.l0] at H
      obtain ⟨hj, hat⟩ := HJ.out
      by_cases hlt : j < l1.length
      · rw [if_pos hlt] at H
        have d1 : decide (j < l1.length) = true := decide_eq_true hlt
        obtain ⟨adi, ei, x0⟩ := Kd.at_int HR1.out (j : Int) (by omega) (by omega)
        subst ei
        simp only [Int.toNat_natCast] at x0
        have X0 := Aside0.mk x0
        have HBW := Aside0.mk (belC HXB.out (Nat.le_succ _) HG.out)
        replace x0 := (HBW.out.cell (World.block_lt_of_cell? w _ x0)).trans x0
        have dj : wrap64 ((j : Int) + 1) = ((j + 1 : Nat) : Int) := by unfold wrap64; have := HT.out; omega
        have HLT := Aside0.mk hlt
        have HAT := Aside0.mk hat
        clear hj
        by_cases h1 : (at_ : Int) < rd l1 (j : Int)
        case neg =>
          rw [if_neg (fun hh => h1 hh.1)] at H
          have H' := Aside0.mk H
          clear H
          have e1 : decide ((at_ : Int) < rd l1 (j : Int)) = false := decide_eq_false h1
          clear h1
          go_wp2
          go_roundg k1
          case measure => omega
          case rel => exact ⟨parts, _, _, _, at_, j + 1, rfl, by rw [dj], H', HBB, HSK, ⟨HLT.out, HAT.out⟩, HG, HPA⟩
        have e1 : decide ((at_ : Int) < rd l1 (j : Int)) = true := decide_eq_true h1
        by_cases h2 : rd l1 (j : Int) ≤ (s.size : Int)
        case neg =>
          rw [if_neg (fun hh => h2 hh.2)] at H
          have H' := Aside0.mk H
          clear H
          have e2 : decide (rd l1 (j : Int) ≤ (s.size : Int)) = false := decide_eq_false h2
          clear h1 h2
          go_wp2
          go_roundg k1
          case measure => omega
          case rel => exact ⟨parts, _, _, _, at_, j + 1, rfl, by rw [dj], H', HBB, HSK, ⟨HLT.out, HAT.out⟩, HG, HPA⟩
        rw [if_pos ⟨h1, h2⟩] at H
        have e2 : decide (rd l1 (j : Int) ≤ (s.size : Int)) = true := decide_eq_true h2
        obtain ⟨⟨ua, ub, uc, ud⟩, hu, H⟩ := Option.bind_eq_some_iff.1 H
        dsimp only at H hu
        split at H
        case isFalse => cases H
        rename_i hln
        have HU := Aside0.mk hu
        have HLN := Aside0.mk hln
        have H' := Aside0.mk H
        clear hu hln H
        have g1 : (0 : Int) ≤ (at_ : Int) := by omega
        have g2 : (0 : Int) ≤ rd l1 (j : Int) := by omega
        have g3 : (at_ : Int) ≤ rd l1 (j : Int) := by omega
        have HRD := Aside0.mk (And.intro g2 h2)
        go_upto_region 14 with (fail)
        go_wp2_with (first | (go_at_call 11; refine (frame_Reader_Feed.calls k1 (w.heap.size + 1) rl sk m _ ua ub uc ud _ HBB.out HSK.out.1 HSK.out.2 HU.out).mono ?_; rintro e w4 ⟨vf, rfl, ho, hb, hg, hk⟩; obtain ⟨Af, cf, rfl⟩ := Kd.R_slice ho; have HF4 := Aside0.mk (Kd.R_reads' ho).2.2; have HB4 := Aside0.mk hb; have HG4 := Aside0.mk (HG.out.trans hg); have HP4 := Aside0.mk (rowC HPA.out HL3.out hg); have HK4 := Aside0.mk hk; clear ho hb hg hk) | ((with_reducible refine gate_builtin (b := .append) (xs := #[.tmp 53, .tmp 62]) rfl ?_); at_builtin; refine Kd.R_append_rows k37 (w0 := w3) 0 rfl (.tmp 53) (.tmp 62) 31 37 (.agg #[(.string ⟨#[]⟩), (.int .i64 0)]) 24 rfl Try.underlying31 inf rfl (by decide) (by omega) u8 parts ud Af ud.length cf (fun k_ => w3.heap.size ≤ k_) (fun _ => False) rfl rfl ?aO ?aR (fun _ _ h => h) (fun _ h => h.elim) ?aF ?aB ?aS ?aL ?_; (case aR => exact HF4.out); (case aB => exact belZ HG4.out); (case aF => exact (fun k hk => Nat.le_trans HG4.out.size hk)); (case aO => exact HP4.out); (case aS => exact Nat.zero_le _); (case aL => have := HLN.out; omega); intro v5 w5 ho hb5 hg5 hat5; have HO5 := Aside0.mk ho; have HB5 := Aside0.mk (blkC HB4.out hg5 (fun q e => by have := HP4.out.1 q e; have := HL3.out; omega)); have HG5 := Aside0.mk (grU HG4.out hg5 (fun q e => HP4.out.1 q e)); replace x0 := ((belC HXB.out (Nat.le_succ _) HG5.out).cell (World.block_lt_of_cell? w _ X0.out)).trans X0.out; clear ho hb5 hg5 hat5))
        go_roundg k1
        case measure => omega
        case rel => exact ⟨parts ++ ud, _, _, _, (rd l1 (j : Int)).toNat, j + 1, (by rw [Int.toNat_of_nonneg HRD.out.1]), by rw [dj], H', HB5, HK4, ⟨HLT.out, (by have := HRD.out; omega)⟩, HG5, HO5⟩
      · rw [if_neg hlt] at H
        have d1 : decide (j < l1.length) = false := decide_eq_false hlt
        unfold sandglasslaw20_FrameCuts.e at H
        obtain ⟨⟨ua, ub, uc, ud⟩, hu, H⟩ := Option.bind_eq_some_iff.1 H
        dsimp only at H hu
        split at H
        case isFalse => cases H
        rename_i hln
        split at H
        case isFalse => cases H
        rename_i hh
        obtain ⟨q1, q2⟩ := hh
        obtain rfl := Option.some.inj H
        clear H
        have HQ := Aside0.mk (map_sameC q2)
        have HU := Aside0.mk hu
        have HLN := Aside0.mk hln
        clear hu hln q2
        have g1 : (0 : Int) ≤ (at_ : Int) := by omega
        have g3 : (at_ : Int) ≤ (s.size : Int) := by omega
        have q1b : ((a1.size : Int) != (ua.size : Int)) = false := by rw [bne_eq_false_iff_eq]; omega
        clear q1
        go_upto_region 17 with (first | (go_at_call 11; refine (frame_Reader_Feed.calls k1 (w.heap.size + 1) rl sk m _ ua ub uc ud _ HBB.out HSK.out.1 HSK.out.2 HU.out).mono ?_; rintro e w4 ⟨vf, rfl, ho, hb, hg, hk⟩; obtain ⟨Af, cf, rfl⟩ := Kd.R_slice ho; have HF4 := Aside0.mk (Kd.R_reads' ho).2.2; have HB4 := Aside0.mk hb; have HG4 := Aside0.mk (HG.out.trans hg); have HP4 := Aside0.mk (rowC HPA.out HL3.out hg); have HK4 := Aside0.mk hk; clear ho hb hg hk) | ((with_reducible refine gate_builtin (b := .append) (xs := #[.tmp 68, .tmp 73]) rfl ?_); at_builtin; refine Kd.R_append_rows k37 (w0 := w3) 0 rfl (.tmp 68) (.tmp 73) 31 37 (.agg #[(.string ⟨#[]⟩), (.int .i64 0)]) 24 rfl Try.underlying31 inf rfl (by decide) (by omega) u8 parts ud Af ud.length cf (fun k_ => w3.heap.size ≤ k_) (fun _ => False) rfl rfl ?aO ?aR (fun _ _ h => h) (fun _ h => h.elim) ?aF ?aB ?aS ?aL ?_; (case aR => exact HF4.out); (case aB => exact belZ HG4.out); (case aF => exact (fun k hk => Nat.le_trans HG4.out.size hk)); (case aO => exact HP4.out); (case aS => exact Nat.zero_le _); (case aL => have := HLN.out; omega); intro v5 w5 ho hb5 hg5 hat5; have HO5 := Aside0.mk ho; have HB5 := Aside0.mk (blkC HB4.out hg5 (fun q e => by have := HP4.out.1 q e; have := HL3.out; omega)); have HG5 := Aside0.mk (grU HG4.out hg5 (fun q e => HP4.out.1 q e)); clear ho hb5 hg5 hat5))
        have HBZ := Aside0.mk (belC HXB.out (Nat.le_succ _) HG5.out)
        have HA5 := Aside0.mk (blkC HX1.out HG5.out (fun q e => by injection e with e; omega))
        have HW5 := Aside0.mk (Kd.R_reads' (rowC HXO.out HL2.out HG5.out)).2.2
        rw [← HQ.out] at HO5
        obtain ⟨A5, c5, rfl⟩ := Kd.R_slice HO5.out
        have HP5 := Aside0.mk (Kd.R_reads' HO5.out).2.2
        have HPL := Aside0.mk (show a4.length ≤ 1000000000000 by rw [HQ.out, List.length_append]; exact HLN.out)
        have LA := Aside0.mk (frame_Reader_Left.calls _ _ _ _ _ HA5.out)
        have LB := Aside0.mk (frame_Reader_Left.calls _ _ _ _ _ HB5.out)
        go_wp2_with (go_at_call 12; (first | (with_reducible refine LA.out.mono ?_) | (with_reducible refine LB.out.mono ?_)); rintro e w8 ⟨rfl, hw⟩; obtain rfl : w5 = w8 := hw.symm)
        go_loopg [11] a4.length (fun kq v11 w' => ∃ (i : Nat), v11 = .int .i64 i ∧ Aside0 (i + kq = a4.length) ∧ Drawn0 w5 w')
        case atStart => exact ⟨0, rfl, ⟨Nat.zero_add _⟩, Drawn0.refl _⟩
        case round =>
          obtain ⟨i, rfl, hi, ⟨nd, rfl⟩⟩ := hrel
          cases gk with
          | zero =>
            have d2 : decide (i < a4.length) = false := decide_eq_false (by have := hi.out; omega)
            go_wp2_with (go_at_call 6; refine (sandglasslaw20_live.calls _).mono ?_; rintro e w9 ⟨rfl, hb⟩)
            go_ret
            exact ⟨rfl, (HBZ.out.trans (((Drawn0.refl w5).step nd).below.mono HBZ.out.size)).trans (hb.mono HBZ.out.size)⟩
          | succ k2 =>
            have hlt2 : i < a4.length := by have := hi.out; omega
            have d2 : decide (i < a4.length) = true := decide_eq_true hlt2
            obtain ⟨ay, ey, y0, y1⟩ := at_T37 HW5.out (i : Int) (by omega) (by omega)
            obtain ⟨az, ez, z0, z1⟩ := at_T37 HP5.out (i : Int) (by omega) (by omega)
            subst ey ez
            simp only [Int.toNat_natCast] at y0 y1 z0 z1
            have di : wrap64 ((i : Int) + 1) = ((i + 1 : Nat) : Int) := by unfold wrap64; have := HPL.out; omega
            go_wp2
            repeat (go_quiet (fail); try go_wp2)
            go_roundg k2
            case measure => omega
            case rel => exact ⟨i + 1, by rw [di], ⟨by have := hi.out; omega⟩, (Drawn0.refl w5).step _⟩
theorem sandglasslaw20_FrameCuts.calls (k : Nat) (a0 : ByteArray) (A1 : Option Addr) (c1 : Nat) (l1 : List Int) (r : Bool) (w : World) (hr1 : Kd.C (Kd.int .i64) w A1 l1.length l1) (hc1 : l1.length ≤ c1) (h : sandglasslaw20_FrameCuts.f k a0 l1 = some r) :
    Calls Try.prog 4 #[.string a0, .slice A1 l1.length c1] w fun e w' => e = .returned (.bool r) ∧ Below w.heap.size w w' :=
  sandglasslaw20_FrameCuts.calls0 k a0 A1 c1 l1 r w hr1 hc1 h

end Go.Proofs.Yteljllpkjhkanaa.Q
