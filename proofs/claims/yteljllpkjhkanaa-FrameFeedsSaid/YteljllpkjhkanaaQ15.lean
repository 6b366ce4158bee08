-- Laid by wip/tools/hprint.py, a program of this repo, over the kit's print; not a text of print.sh.
import Derived.Test.YteljllpkjhkanaaQ0
import Derived.Test.YteljllpkjhkanaaQ3
import Derived.Test.YteljllpkjhkanaaQ4
import Derived.Test.YteljllpkjhkanaaQ6
import Derived.Test.YteljllpkjhkanaaQ7
import Derived.Test.YteljllpkjhkanaaQ10
import Derived.Test.YteljllpkjhkanaaQ12
import Derived.Test.YteljllpkjhkanaaQ13
import Derived.Test.YteljllpkjhkanaaQ14
namespace Go.Proofs.Yteljllpkjhkanaa.Q
open Go.RowKit Go.Proofs.Yteljllpkjhkanaa.Zip Go.Proofs.YteljllpkjhkanaaW.PrintWords Go.Proofs.YteljllpkjhkanaaW.PrintLast Go.Proofs.YteljllpkjhkanaaW.PrintMore
attribute [local go_sem] max2_int min2_int max_two min_two max_three min_three max_four min_four   -- for this text's walks alone
set_option linter.unusedVariables false
set_option linter.unusedSimpArgs false

/-! ### sandglasslaw20_FrameFeeds: given by hand -/
def sandglasslaw20_FrameFeeds.l1 : Nat → List ByteArray → ByteArray → Nat → ByteArray → Int → Bool → Nat → Option Bool
  | 0, _, _, _, _, _, _, _ => none
  | k + 1, l, s, told, rl, sk, m, j => if j < l.length then (if s.size + (rdOf ByteArray.empty l (j : Int)).size ≤ 4611686018427387904 then ((sandglassref20_Pieces.f k (s ++ rdOf ByteArray.empty l (j : Int))).bind fun p => (frame_Reader_Feed.f k rl sk m (rdOf ByteArray.empty l (j : Int))).bind fun t => if told ≤ p.1.length then ((sandglasslaw20_same.f k t.2.2.2 (p.1.drop told)).bind fun b => if b = true then (if (t.1.size : Int) = p.2 then sandglasslaw20_FrameFeeds.l1 k l (s ++ rdOf ByteArray.empty l (j : Int)) p.1.length t.1 t.2.1 t.2.2.1 (j + 1) else none) else none) else none) else none) else some true
def sandglasslaw20_FrameFeeds.l0 : Nat → List ByteArray → Nat → Option Bool
  | 0, _, _ => none
  | k + 1, l, j => if j < l.length then (if (rdOf ByteArray.empty l (j : Int)).size > 4000 then some true else sandglasslaw20_FrameFeeds.l0 k l (j + 1)) else ((sandglasslaw20_few.f k l).bind fun b => if b = true then sandglasslaw20_FrameFeeds.l1 k l ByteArray.empty 0 ByteArray.empty 0 false 0 else some true)
def sandglasslaw20_FrameFeeds.f (k : Nat) (l0 : List ByteArray) : Option Bool := if l0.length > 40 then some true else sandglasslaw20_FrameFeeds.l0 k l0 0
theorem same_at (k : Nat) (A0 : Option Addr) (c0 : Nat) (l0 : List S37) (A1 : Option Addr) (n1 c1 : Nat) (l1 : List S39) (r : Bool) (w : World) (hr0 : Kd.C k37 w A0 l0.length l0) (hc0 : l0.length ≤ c0) (hn : l1.length = n1) (hr1 : Kd.C k39 w A1 l1.length l1) (hc1 : n1 ≤ c1) (h : sandglasslaw20_same.f k l0 l1 = some r) :
    Calls Try.prog 10 #[.slice A0 l0.length c0, .slice A1 n1 c1] w fun e w' => e = .returned (.bool r) ∧ Drawn0 w w' := by
  subst hn
  exact sandglasslaw20_same.calls k A0 c0 l0 A1 c1 l1 r w hr0 hc0 hr1 hc1 h
/-- What Pieces told, behind a Feed. -/
theorem row_fed {W W1 W3 : World} {g n : Nat} {v : Value} {xs : List S39} {Q : Nat → Prop} (hr : Kd.R k39 39 W n (fun k => True ∧ n ≤ k ∧ Q k) v xs) (hg : g < n) (h : W1.grownBy W3 (some g)) (e : W1.heap = W.heap) : Kd.R k39 39 W3 n (fun k => True ∧ n ≤ k ∧ Q k) v xs :=
  Kd.R_step hr (fun j hj hlt => (h.block j (by rw [e]; exact hlt) (by intro e; injection e with e; have := hj.2.1; omega)).trans (by rw [e]))
theorem grB {w wr w2 w3 : World} (h : Below w.heap.size w wr) (h2 : Below wr.heap.size wr w2) (h3 : w2.drew.grownBy w3 (some w.heap.size)) (n : Nat) : Below w.heap.size w (w3.drewN n) :=
  pw_below_drewN (((below_drew (h.trans (h2.mono h.size)))).grown h3 (by have := (h.trans (h2.mono h.size)).size; exact this) (fun q e => by injection e with e; omega)) n
set_option maxHeartbeats 4000000 in
theorem sandglasslaw20_FrameFeeds.calls (k : Nat) (A0 : Option Addr) (c0 : Nat) (l0 : List ByteArray) (r : Bool) (w : World) (hr0 : Kd.C Kd.string w A0 l0.length l0) (hc0 : l0.length ≤ c0) (h : sandglasslaw20_FrameFeeds.f k l0 = some r) :
    Calls Try.prog 3 #[.slice A0 l0.length c0] w fun e w' => e = .returned (.bool r) ∧ Below w.heap.size w w' := by
  have HR0 := Aside0.mk hr0
  have HC0 := Aside0.mk hc0
  clear hr0 hc0
  unfold sandglasslaw20_FrameFeeds.f at h
  by_cases h40 : l0.length > 40
  · have d40 : decide ((40 : Int) < (l0.length : Int)) = true := decide_eq_true (by omega)
    rw [if_pos h40] at h
    obtain rfl := Option.some.inj h
    clear h h40
    go_enter Try.func3, Try.ntmps3
    go_wp2_with (go_at_call 6; refine (sandglasslaw20_live.calls _).mono ?_; rintro e w1 ⟨rfl, hb⟩)
    go_ret
    exact ⟨rfl, hb⟩
  have d40 : decide ((40 : Int) < (l0.length : Int)) = false := decide_eq_false (by omega)
  rw [if_neg h40] at h
  have H := Aside0.mk h
  have H40 := Aside0.mk h40
  clear h h40
  go_enter Try.func3, Try.ntmps3
  go_wp2_with (fail)
  go_loopg [3] k (fun kq v3 w' => ∃ (j : Nat), v3 = .int .i64 j ∧ Aside0 (sandglasslaw20_FrameFeeds.l0 kq l0 j = some r) ∧ Aside0 (j ≤ l0.length) ∧ w = w')
  case atStart => exact ⟨0, rfl, H, ⟨Nat.zero_le _⟩, rfl⟩
  case round =>
    clear H
    obtain ⟨j, rfl, HA, HJ, rfl⟩ := hrel
    cases gk with
    | zero => exact absurd HA.out (by simp [sandglasslaw20_FrameFeeds.l0])
    | succ k1 =>
      have H := HA.out
      clear HA
      simp only [sandglasslaw20_FrameFeeds.l0] at H
      by_cases hlt : j < l0.length
      · rw [if_pos hlt] at H
        have d1 : decide (j < l0.length) = true := decide_eq_true hlt
        obtain ⟨adi, ei, x0⟩ := Kd.at_string HR0.out (j : Int) (by omega) (by omega)
        subst ei
        simp only [Int.toNat_natCast] at x0
        by_cases h4 : (rdOf ByteArray.empty l0 (j : Int)).size > 4000
        · rw [if_pos h4] at H
          obtain rfl := Option.some.inj H
          have d4 : decide ((4000 : Int) < ((rdOf ByteArray.empty l0 (j : Int)).size : Int)) = true := decide_eq_true (by omega)
          clear H
          go_wp2_with (go_at_call 6; refine (sandglasslaw20_live.calls _).mono ?_; rintro e w1 ⟨rfl, hb⟩)
          go_ret
          exact ⟨rfl, hb⟩
        · rw [if_neg h4] at H
          have H' := Aside0.mk H
          clear H
          have d4 : decide ((4000 : Int) < ((rdOf ByteArray.empty l0 (j : Int)).size : Int)) = false := decide_eq_false (by omega)
          have dw : IntKind.i64.wrap ((j : Int) + 1) = (j : Int) + 1 := IntWalk.i64_in _ (by have := H40.out; omega)
          go_wp2
          go_roundg k1
          case measure => omega
          case rel => exact ⟨j + 1, rfl, H', ⟨hlt⟩, rfl⟩
      · rw [if_neg hlt] at H
        have d1 : decide (j < l0.length) = false := decide_eq_false hlt
        obtain ⟨b, hb0, H⟩ := Option.bind_eq_some_iff.1 H
        have HF := Aside0.mk hb0
        clear hb0
        cases b
        · rw [if_neg (by simp)] at H
          obtain rfl := Option.some.inj H
          clear H
          go_wp2_with (first | (go_at_call 7; refine (sandglasslaw20_few.calls k1 _ _ l0 false _ HR0.out HC0.out HF.out).mono ?_; rintro e w1 ⟨rfl, ⟨nd, rfl⟩⟩) | (go_at_call 6; refine (sandglasslaw20_live.calls _).mono ?_; rintro e w1 ⟨rfl, hb⟩))
          go_ret
          exact ⟨rfl, (Drawn0.refl w).step nd |>.below |>.trans (hb.mono (Nat.le_refl _))⟩
        · rw [if_pos rfl] at H
          have H' := Aside0.mk H
          clear H
          go_wp2_with (first | (go_at_call 7; refine (sandglasslaw20_few.calls k1 _ _ l0 true _ HR0.out HC0.out HF.out).mono ?_; rintro e w1 ⟨rfl, ⟨nd, rfl⟩⟩) | (go_at_call 8; refine (frame_New.calls _).mono ?_; rintro e w3 ⟨rfl, rfl⟩))
          have HBLK := Aside0.mk (show ((w.drewN nd).alloc (rdO ⟨#[]⟩ 0 false)).heap[w.heap.size]? = some (rdO ByteArray.empty 0 false) from blk_new (w.drewN nd) _)
          have HB := Aside0.mk (show Below w.heap.size w ((w.drewN nd).alloc (rdO ⟨#[]⟩ 0 false)) from ((Drawn0.refl w).step nd).below.alloc (Nat.le_refl _) _)
          have HSZ := Aside0.mk (show w.heap.size < ((w.drewN nd).alloc (rdO ⟨#[]⟩ 0 false)).heap.size from by simp)
          go_loopg [5, 6, 7] k1 (fun kq v5 v6 v7 w' => ∃ (s : ByteArray) (told : Nat) (rl : ByteArray) (sk : Int) (m : Bool) (j : Nat), v5 = .string s ∧ v6 = .int .i64 told ∧ v7 = .int .i64 j ∧ Aside0 (sandglasslaw20_FrameFeeds.l1 kq l0 s told rl sk m j = some r) ∧ Aside0 (w'.heap[w.heap.size]? = some (rdO rl sk m)) ∧ Aside0 (0 ≤ sk ∧ sk ≤ 65536) ∧ Aside0 (j ≤ l0.length) ∧ Aside0 (Below w.heap.size w w'))
          case atStart => exact ⟨_, 0, _, _, _, 0, rfl, rfl, rfl, H', HBLK, ⟨by decide⟩, ⟨Nat.zero_le _⟩, HB⟩
          case round =>
            clear H' HBLK HB HSZ hlt d1 HF
            obtain ⟨s, told, rl, sk, m, i, rfl, rfl, rfl, HA, HBLK, HSK, HI, HB⟩ := hrel
            cases gk with
            | zero => exact absurd HA.out (by simp [sandglasslaw20_FrameFeeds.l1])
            | succ k2 =>
              have H := HA.out
              clear HA
              simp only [sandglasslaw20_FrameFeeds.l1] at H
              by_cases hlt : i < l0.length
              case neg =>
                rw [if_neg hlt] at H
                obtain rfl := Option.some.inj H
                clear H
                have d1 : decide (i < l0.length) = false := decide_eq_false hlt
                go_wp2_with (go_at_call 6; refine (sandglasslaw20_live.calls _).mono ?_; rintro e w1 ⟨rfl, hb⟩)
                go_ret
                exact ⟨rfl, HB.out.trans (hb.mono HB.out.size)⟩
              rw [if_pos hlt] at H
              have d1 : decide (i < l0.length) = true := decide_eq_true hlt
              split at H
              case isFalse => cases H
              rename_i hsz
              obtain ⟨⟨p1, p2⟩, hp, H⟩ := Option.bind_eq_some_iff.1 H
              obtain ⟨⟨t1, t2, t3, t4⟩, ht, H⟩ := Option.bind_eq_some_iff.1 H
              dsimp only at H
              split at H
              case isFalse => cases H
              rename_i htold
              obtain ⟨b, hb0, H⟩ := Option.bind_eq_some_iff.1 H
              cases b
              · rw [if_neg (by simp)] at H; cases H
              rw [if_pos rfl] at H
              split at H
              case isFalse => cases H
              rename_i hleft
              have H' := Aside0.mk H
              have HP := Aside0.mk hp
              have HT := Aside0.mk ht
              have HS := Aside0.mk hb0
              have HJ := Aside0.mk hlt
              have HTO := Aside0.mk htold
              clear H
              subst hleft
              obtain ⟨adi, ei, x0⟩ := Kd.at_string HR0.out (i : Int) (by omega) (by omega)
              subst ei
              simp only [Int.toNat_natCast] at x0
              replace x0 := (HB.out.cell (World.block_lt_of_cell? w _ x0)).trans x0
              have s1 : s.size + (rdOf ByteArray.empty l0 (i : Int)).size ≤ 9223372036854775807 := by omega
              have HGL := Aside0.mk (blk_lt (show wr.heap[w.heap.size]? = some (.cells _ _ _) from HBLK.out))
              clear hp ht hb0 htold hsz
              go_upto_region 20 with (go_at_call 9; refine (sandglassref20_Pieces.calls k2 _ p1 _ _ HP.out).mono ?_; rintro e w2 ⟨vp, rfl, ho, hb⟩; obtain ⟨Ap, cp, rfl⟩ := Kd.R_slice ho; have HO := Aside0.mk (Kd.R_bound ho); have HB2 := Aside0.mk hb; replace x0 := pw_cell_below hb x0; have HBLK2 := Aside0.mk (blk_below HBLK.out hb); have HCP := Aside0.mk (Kd.R_reads' ho).2.1; clear ho hb)
              have to1 : (told : Int) ≤ (p1.length : Int) := by have := HTO.out; omega
              have to2 : (0 : Int) ≤ (told : Int) := by omega
              have to3 : decide (told ≤ p1.length) = true := decide_eq_true HTO.out
              have dw : IntKind.i64.wrap ((i : Int) + 1) = (i : Int) + 1 := IntWalk.i64_in _ (by have := H40.out; have := HJ.out; omega)
              have dw2 : wrap64 ((i : Int) + 1) = (i : Int) + 1 := by unfold wrap64; have := H40.out; have := HJ.out; omega
              have hg2 : w2.drew.heap[w.heap.size]? = some (rdO rl sk m) := blk_drew HBLK2.out
              by_cases hct : cp = told
              · subst hct
                go_region_with (first | (go_at_call 11; refine (frame_Reader_Feed.calls k2 w.heap.size rl sk m _ t1 t2 t3 t4 _ hg2 HSK.out.1 HSK.out.2 HT.out).mono ?_; rintro e w3 ⟨vf, rfl, ho, hb, hg, hk⟩; obtain ⟨Af, cf, rfl⟩ := Kd.R_slice ho; have HOF := Aside0.mk ho; have HBF := Aside0.mk hb; have HGF := Aside0.mk hg; have HKF := Aside0.mk hk; have HP3 := Aside0.mk (row_fed HO.out HGL.out hg rfl); clear ho hb hg hk) | (go_at_call 10; refine (same_at k2 Af cf t4 _ _ _ (p1.drop cp) true _ (Kd.R_reads' HOF.out).2.2 (Kd.R_reads' HOF.out).2.1 (by simp) ?sc ?sn HS.out).mono ?_; (case sc => exact (by have := Kd.C_drop (Kd.R_reads' HP3.out).2.2 HTO.out HCP.out; rwa [if_pos rfl] at this)); (case sn => have := HCP.out; omega); rintro e w4 ⟨rfl, ⟨n4, rfl⟩⟩) | (go_at_call 12; refine (frame_Reader_Left.calls w.heap.size t1 t2 t3 _ (blk_drewN HBF.out _)).mono ?_; rintro e w5 ⟨rfl, rfl⟩))
                all_goals
                  go_wp2
                  go_roundg k2
                  case measure => omega
                  case rel => exact ⟨_, _, _, _, _, i + 1, rfl, rfl, rfl, H', ⟨blk_drewN HBF.out _⟩, ⟨HKF.out⟩, ⟨HJ.out⟩, ⟨grB HB.out HB2.out HGF.out n4⟩⟩

              · have hcn : (cp = told) = False := eq_false hct
                have HCT := Aside0.mk hct
                clear hct
                go_region_with (first | (go_at_call 11; refine (frame_Reader_Feed.calls k2 w.heap.size rl sk m _ t1 t2 t3 t4 _ hg2 HSK.out.1 HSK.out.2 HT.out).mono ?_; rintro e w3 ⟨vf, rfl, ho, hb, hg, hk⟩; obtain ⟨Af, cf, rfl⟩ := Kd.R_slice ho; have HOF := Aside0.mk ho; have HBF := Aside0.mk hb; have HGF := Aside0.mk hg; have HKF := Aside0.mk hk; have HP3 := Aside0.mk (row_fed HO.out HGL.out hg rfl); clear ho hb hg hk) | (go_at_call 10; refine (same_at k2 Af cf t4 _ _ _ (p1.drop told) true _ (Kd.R_reads' HOF.out).2.2 (Kd.R_reads' HOF.out).2.1 (by simp) ?sc ?sn HS.out).mono ?_; (case sc => exact (by have := Kd.C_drop (Kd.R_reads' HP3.out).2.2 HTO.out HCP.out; rwa [if_neg HCT.out] at this)); (case sn => have := HCP.out; omega); rintro e w4 ⟨rfl, ⟨n4, rfl⟩⟩) | (go_at_call 12; refine (frame_Reader_Left.calls w.heap.size t1 t2 t3 _ (blk_drewN HBF.out _)).mono ?_; rintro e w5 ⟨rfl, rfl⟩))
                all_goals
                  go_wp2
                  go_roundg k2
                  case measure => omega
                  case rel => exact ⟨_, _, _, _, _, i + 1, rfl, rfl, rfl, H', ⟨blk_drewN HBF.out _⟩, ⟨HKF.out⟩, ⟨HJ.out⟩, ⟨grB HB.out HB2.out HGF.out n4⟩⟩


end Go.Proofs.Yteljllpkjhkanaa.Q
