-- Laid by wip/tools/hprint.py, a program of this repo, over the kit's print; not a text of print.sh.
import Derived.Test.YteljllpkjhkanaaQ0
import Derived.Test.YteljllpkjhkanaaQ3
import Derived.Test.YteljllpkjhkanaaQ4
import Derived.Test.YteljllpkjhkanaaQ5
import Derived.Test.YteljllpkjhkanaaQ6
import Derived.Test.YteljllpkjhkanaaQ7
import Derived.Test.YteljllpkjhkanaaQ10
import Derived.Test.YteljllpkjhkanaaQ13
namespace Go.Proofs.Yteljllpkjhkanaa.Q
open Go.RowKit Go.Proofs.Yteljllpkjhkanaa.Zip Go.Proofs.YteljllpkjhkanaaW.PrintWords Go.Proofs.YteljllpkjhkanaaW.PrintLast Go.Proofs.YteljllpkjhkanaaW.PrintMore
attribute [local go_sem] max2_int min2_int max_two min_two max_three min_three max_four min_four   -- for this text's walks alone
set_option linter.unusedVariables false
set_option linter.unusedSimpArgs false

/-! ### sandglasslaw20_FrameJoins: given by hand -/
def sandglasslaw20_FrameJoins.e (k : Nat) (n : Nat) (s t : ByteArray) : Option Bool := (frame_Reader_Feed.f k ByteArray.empty 0 false s).bind fun a => (frame_Reader_Feed.f k a.1 a.2.1 a.2.2.1 t).bind fun b => (frame_Reader_Feed.f k ByteArray.empty 0 false t).bind fun c => if a.2.2.2.length = n ∧ b.1.size = c.1.size ∧ b.2.2.2.map (fun q => (q.f0, q.f1)) = c.2.2.2.map (fun q => (q.f0, q.f1)) ∧ b.2.2.2.length ≤ 4611686018427387904 then some true else none
def sandglasslaw20_FrameJoins.l0 : Nat → List S39 → Int → ByteArray → ByteArray → Nat → Nat → Option Bool
  | 0, _, _, _, _, _, _ => none
  | k + 1, p, left, s, t, n, j => if j < p.length then (if n + 2 + (rd_T39 p (j : Int)).f0.size ≤ 4611686018427387904 then (if (rd_T39 p (j : Int)).f1 = 0 then sandglasslaw20_FrameJoins.l0 k p left s t (n + 2 + (rd_T39 p (j : Int)).f0.size) (j + 1) else some true) else none) else if left = 0 ∧ n = s.size then sandglasslaw20_FrameJoins.e k p.length s t else some true
def sandglasslaw20_FrameJoins.f (k : Nat) (s t : ByteArray) : Option Bool := if s.size > 2000 ∨ t.size > 2000 then some true else (sandglassref20_Pieces.f k s).bind fun p => if p.1.length ≤ 4611686018427387904 then sandglasslaw20_FrameJoins.l0 k p.1 p.2 s t 0 0 else none
theorem map_same {a b : List S37} (h : a.map (fun q => (q.f0, q.f1)) = b.map (fun q => (q.f0, q.f1))) : a = b := by
  induction a generalizing b with
  | nil => cases b with
    | nil => rfl
    | cons x l => simp at h
  | cons y m ih => cases b with
    | nil => simp at h
    | cons x l =>
      simp only [List.map_cons, List.cons.injEq, Prod.mk.injEq] at h
      obtain ⟨⟨h1, h2⟩, h3⟩ := h
      rw [ih h3]
      cases x; cases y
      simp only at h1 h2
      rw [h1, h2]
theorem rowH {W W' : World} {g n0 : Nat} {v : Value} {xs : List S37} (hr : Kd.R k37 37 W 0 (fun k_ => n0 ≤ k_) v xs) (hg : g < n0) (h : W.grownBy W' (some g)) : Kd.R k37 37 W' 0 (fun k_ => n0 ≤ k_) v xs :=
  Kd.R_step hr (fun j hj hlt => h.block j hlt (by intro e; injection e with e; omega))
theorem belH {w W W' : World} {g : Nat} (h : Below w.heap.size w W) (hg : w.heap.size ≤ g) (k : W.grownBy W' (some g)) : Below w.heap.size w W' := h.grown k h.size (fun q e => by injection e with e; omega)
theorem blkH {W W' : World} {g b : Nat} {o : Obj} (h : W.heap[b]? = some o) (k : W.grownBy W' (some g)) (hne : b ≠ g) : W'.heap[b]? = some o := (k.block b (Array.getElem?_eq_some_iff.1 h).1 (by intro e; injection e with e; exact hne e)).trans h
set_option maxHeartbeats 1000000 in
theorem sandglasslaw20_FrameJoins.calls0 (k : Nat) (s t : ByteArray) (r : Bool) (w : World) (h : sandglasslaw20_FrameJoins.f k s t = some r) :
    Calls Try.prog 5 #[.string s, .string t] w fun e w' => e = .returned (.bool r) ∧ Below w.heap.size w w' := by
  unfold sandglasslaw20_FrameJoins.f at h
  by_cases hs : s.size > 2000
  · have d40 : decide ((2000 : Int) < (s.size : Int)) = true := decide_eq_true (by omega)
    rw [if_pos (Or.inl hs)] at h
    obtain rfl := Option.some.inj h
    clear h hs
    go_enter Try.func5, Try.ntmps5
    go_wp2_with (go_at_call 6; refine (sandglasslaw20_live.calls _).mono ?_; rintro e w1 ⟨rfl, hb⟩)
    go_ret
    exact ⟨rfl, hb⟩
  have d40 : decide ((2000 : Int) < (s.size : Int)) = false := decide_eq_false (by omega)
  by_cases ht : t.size > 2000
  · have d41 : decide ((2000 : Int) < (t.size : Int)) = true := decide_eq_true (by omega)
    rw [if_pos (Or.inr ht)] at h
    obtain rfl := Option.some.inj h
    clear h hs ht
    go_enter Try.func5, Try.ntmps5
    go_wp2_with (go_at_call 6; refine (sandglasslaw20_live.calls _).mono ?_; rintro e w1 ⟨rfl, hb⟩)
    go_ret
    exact ⟨rfl, hb⟩
  have d41 : decide ((2000 : Int) < (t.size : Int)) = false := decide_eq_false (by omega)
  rw [if_neg (by omega)] at h
  obtain ⟨⟨p1, p2⟩, hp, h⟩ := Option.bind_eq_some_iff.1 h
  dsimp only at h
  split at h
  case isFalse => cases h
  rename_i hpl
  have H := Aside0.mk h
  have HP := Aside0.mk hp
  have HPL := Aside0.mk hpl
  clear h hs ht hp hpl
  go_enter Try.func5, Try.ntmps5
  go_wp2_with (go_at_call 9; refine (sandglassref20_Pieces.calls k _ p1 p2 _ HP.out).mono ?_; rintro e w1 ⟨vp, rfl, ho, hb⟩; obtain ⟨Ap, cp, rfl⟩ := Kd.R_slice ho; have HO := Aside0.mk (Kd.R_reads' ho).2.2; have HB1 := Aside0.mk hb; clear ho hb)
  go_loopg [7, 8] k (fun kq v7 v8 w' => ∃ (n j : Nat), v7 = .int .i64 n ∧ v8 = .int .i64 j ∧ Aside0 (sandglasslaw20_FrameJoins.l0 kq p1 p2 s t n j = some r) ∧ Aside0 (j ≤ p1.length) ∧ w1 = w')
  case atStart => exact ⟨0, 0, rfl, rfl, H, ⟨Nat.zero_le _⟩, rfl⟩
  case round =>
    clear H
    obtain ⟨n, j, rfl, rfl, HA, HJ, rfl⟩ := hrel
    cases gk with
    | zero => exact absurd HA.out (by simp [sandglasslaw20_FrameJoins.l0])
    | succ k1 =>
      have H := HA.out
      clear HA
      simp only [sandglasslaw20_FrameJoins.l0] at H
      by_cases hlt : j < p1.length
      · rw [if_pos hlt] at H
        have d1 : decide (j < p1.length) = true := decide_eq_true hlt
        split at H
        case isFalse => cases H
        rename_i hn
        obtain ⟨adi, ei, x0, x1⟩ := at_T39 HO.out (j : Int) (by omega) (by omega)
        subst ei
        simp only [Int.toNat_natCast] at x0 x1
        have dn0 : wrap64 ((n : Int) + 2) = (n : Int) + 2 := by unfold wrap64; omega
        have dn1 : IntKind.i64.wrap ((n : Int) + 2) = (n : Int) + 2 := IntWalk.i64_in _ (by omega)
        have dn2 : wrap64 ((n : Int) + 2 + ((rd_T39 p1 (j : Int)).f0.size : Int)) = ((n + 2 + (rd_T39 p1 (j : Int)).f0.size : Nat) : Int) := by unfold wrap64; omega
        have dn3 : IntKind.i64.wrap ((n : Int) + 2 + ((rd_T39 p1 (j : Int)).f0.size : Int)) = ((n + 2 + (rd_T39 p1 (j : Int)).f0.size : Nat) : Int) := by rw [IntWalk.i64_in _ (by omega)]; omega
        have dj : wrap64 ((j : Int) + 1) = ((j + 1 : Nat) : Int) := by unfold wrap64; have := HPL.out; omega
        have dj2 : IntKind.i64.wrap ((j : Int) + 1) = ((j + 1 : Nat) : Int) := by rw [IntWalk.i64_in _ (by have := HPL.out; omega)]; omega
        clear hn
        by_cases hc : (rd_T39 p1 (j : Int)).f1 = 0
        · rw [if_pos hc] at H
          have H' := Aside0.mk H
          have HLT := Aside0.mk hlt
          clear H
          have dc : ((rd_T39 p1 (j : Int)).f1 != 0) = false := by rw [bne_eq_false_iff_eq]; exact hc
          clear hc
          go_wp2
          go_roundg k1
          case measure => omega
          case rel => exact ⟨_, j + 1, rfl, rfl, H', ⟨HLT.out⟩, rfl⟩
        · rw [if_neg hc] at H
          obtain rfl := Option.some.inj H
          clear H
          have dc : ((rd_T39 p1 (j : Int)).f1 != 0) = true := by rw [bne_iff_ne]; exact hc
          clear hc
          go_wp2_with (go_at_call 6; refine (sandglasslaw20_live.calls _).mono ?_; rintro e w2 ⟨rfl, hb⟩)
          go_ret
          exact ⟨rfl, HB1.out.trans (hb.mono HB1.out.size)⟩
      · rw [if_neg hlt] at H
        have d1 : decide (j < p1.length) = false := decide_eq_false hlt
        clear hlt
        by_cases hl : p2 = 0
        case neg =>
          rw [if_neg (by omega)] at H
          obtain rfl := Option.some.inj H
          clear H
          have dl : (p2 != 0) = true := by rw [bne_iff_ne]; exact hl
          clear hl
          go_wp2_with (go_at_call 6; refine (sandglasslaw20_live.calls _).mono ?_; rintro e w2 ⟨rfl, hb⟩)
          go_ret
          exact ⟨rfl, HB1.out.trans (hb.mono HB1.out.size)⟩
        subst hl
        by_cases hn : n = s.size
        case neg =>
          rw [if_neg (by omega)] at H
          obtain rfl := Option.some.inj H
          clear H
          have dl : ((n : Int) != (s.size : Int)) = true := by rw [bne_iff_ne]; omega
          clear hn
          go_wp2_with (go_at_call 6; refine (sandglasslaw20_live.calls _).mono ?_; rintro e w2 ⟨rfl, hb⟩)
          go_ret
          exact ⟨rfl, HB1.out.trans (hb.mono HB1.out.size)⟩
        subst hn
        rw [if_pos ⟨rfl, rfl⟩] at H
        unfold sandglasslaw20_FrameJoins.e at H
        obtain ⟨⟨a1, a2, a3, a4⟩, ha, H⟩ := Option.bind_eq_some_iff.1 H
        obtain ⟨⟨b1, b2, b3, b4⟩, hb, H⟩ := Option.bind_eq_some_iff.1 H
        obtain ⟨⟨c1, c2, c3, c4⟩, hc, H⟩ := Option.bind_eq_some_iff.1 H
        dsimp only at H ha hb hc
        split at H
        case isFalse => cases H
        rename_i hh
        obtain ⟨e1, e2, e3, hfu⟩ := hh
        obtain rfl := Option.some.inj H
        clear H
        obtain rfl := map_same e3
        clear e3
        have HFA := Aside0.mk ha
        have HFB := Aside0.mk hb
        have HFC := Aside0.mk hc
        have HFU := Aside0.mk hfu
        have q1 : ((a4.length : Int) != (p1.length : Int)) = false := by rw [bne_eq_false_iff_eq]; omega
        have q2 : ((b1.size : Int) != (c1.size : Int)) = false := by rw [bne_eq_false_iff_eq]; omega
        clear ha hb hc hfu e1 e2
        go_upto_region 14 with (go_at_call 8; refine (frame_New.calls _).mono ?_; rintro e w3 ⟨rfl, rfl⟩)
        go_upto_region 17 with (go_at_call 8; refine (frame_New.calls _).mono ?_; rintro e w4 ⟨rfl, rfl⟩)
        have HA1 := Aside0.mk (show ((w1.alloc (rdO ⟨#[]⟩ 0 false)).alloc (rdO ⟨#[]⟩ 0 false)).heap[w1.heap.size]? = some (rdO ByteArray.empty 0 false) from blk_alloc (blk_new w1 (rdO ⟨#[]⟩ 0 false)) (rdO ⟨#[]⟩ 0 false))
        have HA2 := Aside0.mk (show ((w1.alloc (rdO ⟨#[]⟩ 0 false)).alloc (rdO ⟨#[]⟩ 0 false)).heap[w1.heap.size + 1]? = some (rdO ByteArray.empty 0 false) from blk_at' (by simp) (rdO ⟨#[]⟩ 0 false))
        have HBW := Aside0.mk ((HB1.out.alloc HB1.out.size (rdO ⟨#[]⟩ 0 false)).alloc (Nat.le_trans HB1.out.size (by simp)) (rdO ⟨#[]⟩ 0 false))
        have HG1 := Aside0.mk (show w.heap.size ≤ w1.heap.size from HB1.out.size)
        have HG2 := Aside0.mk (show w.heap.size ≤ w1.heap.size + 1 by have := HG1.out; omega)
        have HNE := Aside0.mk (show w1.heap.size + 1 ≠ w1.heap.size by omega)
        have HL2 := Aside0.mk (blk_lt (show ((w1.alloc (rdO ⟨#[]⟩ 0 false)).alloc (rdO ⟨#[]⟩ 0 false)).heap[w1.heap.size + 1]? = some (.cells _ _ _) from HA2.out))
        go_upto_region 18 with (go_at_call 11; refine (frame_Reader_Feed.calls k1 w1.heap.size ByteArray.empty 0 false s a1 a2 a3 a4 _ HA1.out (by decide) (by decide) HFA.out).mono ?_; rintro e w5 ⟨vx, rfl, ho, hb, hg, hk⟩; obtain ⟨Ax, cx, rfl⟩ := Kd.R_slice ho; have HX1 := Aside0.mk hb; have HX2 := Aside0.mk (blkH HA2.out hg HNE.out); have HXB := Aside0.mk (belH HBW.out HG1.out hg); have HXS := Aside0.mk hg.size; have HK := Aside0.mk hk; clear ho hb hg hk)
        go_upto_region 19 with (go_at_call 11; refine (frame_Reader_Feed.calls k1 w1.heap.size a1 a2 a3 t b1 b2 b3 b4 _ HX1.out HK.out.1 HK.out.2 HFB.out).mono ?_; rintro e w6 ⟨vy, rfl, ho, hb, hg, hk⟩; obtain ⟨Ay, cy, rfl⟩ := Kd.R_slice ho; have HY1 := Aside0.mk hb; have HY2 := Aside0.mk (blkH HX2.out hg HNE.out); have HYB := Aside0.mk (belH HXB.out HG1.out hg); have HYO := Aside0.mk ho; clear ho hb hg hk)
        go_upto_region 20 with (go_at_call 11; refine (frame_Reader_Feed.calls k1 (w1.heap.size + 1) ByteArray.empty 0 false t c1 c2 c3 b4 _ HY2.out (by decide) (by decide) HFC.out).mono ?_; rintro e w7 ⟨vz, rfl, ho, hb, hg, hk⟩; obtain ⟨Az, cz, rfl⟩ := Kd.R_slice ho; have HZ2 := Aside0.mk hb; have HZ1 := Aside0.mk (blkH HY1.out hg (Ne.symm HNE.out)); have HZB := Aside0.mk (belH HYB.out HG2.out hg); have HZO := Aside0.mk (Kd.R_reads' ho).2.2; have HYZ := Aside0.mk (Kd.R_reads' (rowH HYO.out (Nat.lt_of_lt_of_le HL2.out HXS.out) hg)).2.2; clear ho hb hg hk)
        have LA := Aside0.mk (frame_Reader_Left.calls _ _ _ _ _ HZ1.out)
        have LB := Aside0.mk (frame_Reader_Left.calls _ _ _ _ _ HZ2.out)
        go_wp2_with (go_at_call 12; (first | (with_reducible refine LA.out.mono ?_) | (with_reducible refine LB.out.mono ?_)); rintro e w8 ⟨rfl, hw⟩; obtain rfl : w7 = w8 := hw.symm)
        go_loopg [14] b4.length (fun kq v14 w' => ∃ (i : Nat), v14 = .int .i64 i ∧ Aside0 (i + kq = b4.length) ∧ Drawn0 w7 w')
        case atStart => exact ⟨0, rfl, ⟨Nat.zero_add _⟩, Drawn0.refl _⟩
        case round =>
          obtain ⟨i, rfl, hi, ⟨nd, rfl⟩⟩ := hrel
          cases gk with
          | zero =>
            have d2 : decide (i < b4.length) = false := decide_eq_false (by have := hi.out; omega)
            go_wp2_with (go_at_call 6; refine (sandglasslaw20_live.calls _).mono ?_; rintro e w9 ⟨rfl, hb⟩)
            go_ret
            exact ⟨rfl, (HZB.out.trans (((Drawn0.refl w7).step nd).below.mono HZB.out.size)).trans (hb.mono HZB.out.size)⟩
          | succ k2 =>
            have hlt2 : i < b4.length := by have := hi.out; omega
            have d2 : decide (i < b4.length) = true := decide_eq_true hlt2
            obtain ⟨ay, ey, y0, y1⟩ := at_T37 HYZ.out (i : Int) (by omega) (by omega)
            obtain ⟨az, ez, z0, z1⟩ := at_T37 HZO.out (i : Int) (by omega) (by omega)
            subst ey ez
            simp only [Int.toNat_natCast] at y0 y1 z0 z1
            have di : wrap64 ((i : Int) + 1) = ((i + 1 : Nat) : Int) := by unfold wrap64; have := HFU.out; omega
            go_wp2
            repeat (go_quiet (fail); try go_wp2)
            go_roundg k2
            case measure => omega
            case rel => exact ⟨i + 1, by rw [di], ⟨by have := hi.out; omega⟩, (Drawn0.refl w7).step _⟩
theorem sandglasslaw20_FrameJoins.calls (k : Nat) (a0 : ByteArray) (a1 : ByteArray) (r : Bool) (w : World) (h : sandglasslaw20_FrameJoins.f k a0 a1 = some r) :
    Calls Try.prog 5 #[.string a0, .string a1] w fun e w' => e = .returned (.bool r) ∧ Below w.heap.size w w' :=
  sandglasslaw20_FrameJoins.calls0 k a0 a1 r w h

end Go.Proofs.Yteljllpkjhkanaa.Q
