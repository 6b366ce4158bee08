/- The statement GrowNil: whatever the input, the law's function returns true and leaves its arguments as they were. No further condition. -/
import Derived.Test.YtmnikjhnomphmaaQ17
import Derived.Test.YtmnikjhnomphmaaQ18
import Derived.IntWalk
import Derived.Test.YtmnikjhnomphmaaQ0
import Derived.Test.YtmnikjhnomphmaaQ2
import Derived.Test.YtmnikjhnomphmaaQ9
import Derived.Test.YtmnikjhnomphmaaQ37
import Derived.Test.YtmnikjhnomphmaaQ41
import Derived.RegionTactic
import Derived.ChangeAlike
import Derived.Deep.RegionWith
import Derived.Test.YtmnikjhnomphmaaQ16
import Derived.Test.YtmnikjhnomphmaaQ10
import Derived.Test.YtmnikjhnomphmaaQ11
import Derived.Test.YtmnikjhnomphmaaQ14
import Derived.Sort.Walk0
import Derived.Laws.Strings
import Derived.Test.YtmnikjhnomphmaaQ13
import Derived.Test.YtmnikjhnomphmaaQ15
import Derived.Shelf.Abstract
import Derived.Lib.Walk
import Derived.Lib.SliceRun
import Derived.Lib.AppendZerosOnto
import Derived.Test.YtmnikjhnomphmaaWFoot
import Derived.Deep.Slices
import Derived.OpenShut
import Derived.SizedLaws
import Derived.WideShapes
import Derived.Test.YtmnikjhnomphmaaRows
import Derived.WalkKit
import Derived.ProofKit
import Derived.ShutString
import Derived.ChangeOld
import Derived.Below
namespace Go.Proofs.Ytmnikjhnomphmaa.La
open Go.RowKit Go.Proofs.YtmnikjhnomphmaaW.PrintWords Go.Proofs.YtmnikjhnomphmaaW.PrintLast Go.Proofs.YtmnikjhnomphmaaW.PrintMore Go.Proofs.Ytmnikjhnomphmaa.Q
set_option linter.unusedSimpArgs false
set_option linter.unusedVariables false
abbrev Sl := S84
def sl (l : List Sl) (i : Nat) : Sl := rd_T84 l (i : Int)
theorem sl_set {l : List Sl} {i : Nat} (h : i < l.length) (s : Sl) (j : Nat) : sl (l.set i s) j = if i = j then s else sl l j := by
  unfold sl rd_T84
  rw [Int.toNat_natCast, List.getD_eq_getElem?_getD, List.getD_eq_getElem?_getD, List.getElem?_set]
  by_cases e : i = j
  · subst e; simp [h]
  · simp [e]
theorem sl_self {l : List Sl} {i : Nat} (h : i < l.length) (s : Sl) : sl (l.set i s) i = s := by rw [sl_set h, if_pos rfl]
theorem sl_ne {l : List Sl} {i j : Nat} (h : i < l.length) (s : Sl) (e : i ≠ j) : sl (l.set i s) j = sl l j := by rw [sl_set h, if_neg e]
/-! Places in a ring. -/
theorem step_mod {h d n : Nat} : (h + (d + 1)) % n = ((h + d) % n + 1) % n := by rw [Nat.mod_add_mod, Nat.add_assoc]
theorem add_ne {a e n : Nat} (h1 : a < n) (h2 : 0 < e) (h3 : e < n) : (a + e) % n ≠ a := by
  intro q
  by_cases c : a + e < n
  · rw [Nat.mod_eq_of_lt c] at q; omega
  · rw [Nat.mod_eq_sub_mod (by omega), Nat.mod_eq_of_lt (by omega)] at q; omega
theorem mod_inj {h d D n : Nat} (h0 : 0 < n) (h1 : d < D) (h2 : D < n) : (h + d) % n ≠ (h + D) % n := by
  intro q
  have := add_ne (a := (h + d) % n) (e := D - d) (n := n) (Nat.mod_lt _ h0) (by omega) (by omega)
  rw [Nat.mod_add_mod, show h + d + (D - d) = h + D by omega] at this
  exact this q.symm
theorem nx_inj {i j n : Nat} (hi : i < n) (hj : j < n) (h : (i + 1) % n = (j + 1) % n) : i = j := by
  by_cases a : i + 1 < n
  · rw [Nat.mod_eq_of_lt a] at h
    by_cases c : j + 1 < n
    · rw [Nat.mod_eq_of_lt c] at h; omega
    · rw [show j + 1 = n by omega, Nat.mod_self] at h; omega
  · rw [show i + 1 = n by omega, Nat.mod_self] at h
    by_cases c : j + 1 < n
    · rw [Nat.mod_eq_of_lt c] at h; omega
    · omega
/-- Keys stand where their homes and dists say; none is further from home than the one ahead by more than one. -/
structure Inv (hm : ByteArray → Nat) (l : List Sl) : Prop where
  pos : ∀ i, i < l.length → (sl l i).f0 = true → ∃ d : Nat, (sl l i).f3 = (d : Int) ∧ d < l.length ∧ (hm (sl l i).f1 + d) % l.length = i
  prev : ∀ i, i < l.length → (sl l ((i + 1) % l.length)).f0 = true → 0 < (sl l ((i + 1) % l.length)).f3 → (sl l i).f0 = true ∧ (sl l ((i + 1) % l.length)).f3 ≤ (sl l i).f3 + 1
  uniq : ∀ i j, i < l.length → j < l.length → (sl l i).f0 = true → (sl l j).f0 = true → (sl l i).f1 = (sl l j).f1 → i = j
  zero : ∀ i, i < l.length → (sl l i).f0 = false → sl l i = zeroS
/-- Back from a key to its home all is used, and far enough from home. -/
theorem back {l : List Sl} (hn : 0 < l.length) (prev : ∀ i, i < l.length → (sl l ((i + 1) % l.length)).f0 = true → 0 < (sl l ((i + 1) % l.length)).f3 → (sl l i).f0 = true ∧ (sl l ((i + 1) % l.length)).f3 ≤ (sl l i).f3 + 1) (h D : Nat) (hu : (sl l ((h + D) % l.length)).f0 = true) (hd : (D : Int) ≤ (sl l ((h + D) % l.length)).f3) : ∀ e, e ≤ D → (sl l ((h + (D - e)) % l.length)).f0 = true ∧ ((D - e : Nat) : Int) ≤ (sl l ((h + (D - e)) % l.length)).f3
  | 0, _ => ⟨hu, hd⟩
  | e + 1, he => by
    obtain ⟨i1, i2⟩ := back hn prev h D hu hd e (by omega)
    rw [show D - e = (D - (e + 1)) + 1 by omega, step_mod] at i1 i2
    obtain ⟨p1, p2⟩ := prev _ (Nat.mod_lt _ hn) i1 (by omega)
    exact ⟨p1, by omega⟩
theorem findL_some {l : List Sl} {key : ByteArray} {h : Nat} : ∀ {r d i : Nat}, findL l key h r d = some i → (sl l i).f0 = true ∧ (sl l i).f1 = key
  | 0, d, i, e => by simp [findL] at e
  | r + 1, d, i, e => by
    rw [findL] at e
    split at e
    · cases e
    · rename_i h1
      split at e
      · cases e
      · split at e
        · rename_i h3
          obtain rfl := Option.some.inj e
          exact ⟨by rw [Bool.not_eq_false] at h1; exact h1, h3⟩
        · exact findL_some e
theorem findL_at {hm : ByteArray → Nat} {l : List Sl} (hn : 0 < l.length) (I : Inv hm l) {key : ByteArray} {D : Nat} (hD : D < l.length) (hu : (sl l ((hm key + D) % l.length)).f0 = true) (hk : (sl l ((hm key + D) % l.length)).f1 = key) (hd : (sl l ((hm key + D) % l.length)).f3 = (D : Int)) : ∀ (e d r : Nat), D - d = e → d ≤ D → D < d + r → findL l key (hm key) r d = some ((hm key + D) % l.length)
  | _, _, 0, _, h2, h3 => by omega
  | 0, d, r + 1, h1, h2, h3 => by
    obtain rfl : d = D := by omega
    rw [findL]
    rw [if_neg (by show ¬ (sl l _).f0 = false; rw [hu]; simp), if_neg (by show ¬ (sl l _).f3 < _; rw [hd]; omega)]
    exact if_pos hk
  | e + 1, d, r + 1, h1, h2, h3 => by
    obtain ⟨b1, b2⟩ := back hn I.prev (hm key) D hu (by omega) (D - d) (by omega)
    rw [show D - (D - d) = d by omega] at b1 b2
    have hne : ¬ (sl l ((hm key + d) % l.length)).f1 = key := fun q => mod_inj hn (show d < D by omega) hD (I.uniq _ _ (Nat.mod_lt _ hn) (Nat.mod_lt _ hn) b1 hu (q.trans hk.symm))
    rw [findL]
    rw [if_neg (by show ¬ (sl l _).f0 = false; rw [b1]; simp), if_neg (by show ¬ (sl l _).f3 < _; omega)]
    refine (if_neg hne).trans ?_
    exact findL_at hn I hD hu hk hd e (d + 1) r (by omega) (by omega) (by omega)
/-- find finds just the slot of the key. -/
theorem find_iff {hm : ByteArray → Nat} {l : List Sl} (hn : 0 < l.length) (I : Inv hm l) {key : ByteArray} {i : Nat} : findL l key (hm key) l.length 0 = some i ↔ i < l.length ∧ (sl l i).f0 = true ∧ (sl l i).f1 = key := by
  constructor
  · intro h
    obtain ⟨h1, h2⟩ := findL_some h
    exact ⟨findL_lt hn h, h1, h2⟩
  · rintro ⟨hi, hu, hk⟩
    obtain ⟨D, d1, d2, d3⟩ := I.pos i hi hu
    rw [hk] at d3
    subst d3
    exact findL_at hn I d2 hu hk d1 D 0 l.length rfl (Nat.zero_le _) (by omega)
/-! How many are used; sums of dists. -/
def bn (s : Sl) : Nat := if s.f0 = true then 1 else 0
def cnt : List Sl → Nat
  | [] => 0
  | s :: l => bn s + cnt l
theorem sl_cons (s : Sl) (l : List Sl) (i : Nat) : sl (s :: l) (i + 1) = sl l i := by unfold sl rd_T84; rw [Int.toNat_natCast, Int.toNat_natCast]; rfl
theorem sl_zero (s : Sl) (l : List Sl) : sl (s :: l) 0 = s := rfl
theorem cnt_set : ∀ (l : List Sl) (i : Nat) (s : Sl), i < l.length → cnt (l.set i s) + bn (sl l i) = cnt l + bn s
  | [], _, _, h => by simp at h
  | x :: l, 0, s, _ => by rw [sl_zero]; simp only [List.set_cons_zero, cnt]; omega
  | x :: l, i + 1, s, h => by
    have := cnt_set l i s (by simpa using h)
    rw [sl_cons]
    simp only [List.set_cons_succ, cnt]
    omega
theorem cnt_le : ∀ l : List Sl, cnt l ≤ l.length
  | [] => Nat.le_refl _
  | s :: l => by have := cnt_le l; simp only [cnt, List.length_cons, bn]; split <;> omega
theorem cnt_free : ∀ l : List Sl, cnt l < l.length → ∃ i, i < l.length ∧ (sl l i).f0 = false
  | [], h => by simp [cnt] at h
  | s :: l, h => by
    by_cases e : s.f0 = true
    · obtain ⟨i, h1, h2⟩ := cnt_free l (by simp only [cnt, bn, if_pos e, List.length_cons] at h; omega)
      exact ⟨i + 1, by simpa using h1, by rw [sl_cons]; exact h2⟩
    · exact ⟨0, by simp, by rw [sl_zero]; simpa using e⟩
theorem cnt_full : ∀ l : List Sl, cnt l = l.length → ∀ i, i < l.length → (sl l i).f0 = true
  | [], _, _, h => by simp at h
  | s :: l, h, i, hi => by
    have := cnt_le l
    simp only [cnt, bn, List.length_cons] at h
    split at h
    · rename_i hs
      cases i with
      | zero => rw [sl_zero]; exact hs
      | succ i => rw [sl_cons]; exact cnt_full l (by omega) i (by simpa using hi)
    · omega
def sumD : List Sl → Nat
  | [] => 0
  | s :: l => s.f3.toNat + sumD l
theorem sumD_set : ∀ (l : List Sl) (i : Nat) (s : Sl), i < l.length → sumD (l.set i s) + (sl l i).f3.toNat = sumD l + s.f3.toNat
  | [], _, _, h => by simp at h
  | x :: l, 0, s, _ => by rw [sl_zero]; simp only [List.set_cons_zero, sumD]; omega
  | x :: l, i + 1, s, h => by
    have := sumD_set l i s (by simpa using h)
    rw [sl_cons]
    simp only [List.set_cons_succ, sumD]
    omega
theorem sumD_at : ∀ (l : List Sl) (i : Nat), i < l.length → (sl l i).f3.toNat ≤ sumD l
  | [], _, h => by simp at h
  | x :: l, 0, _ => by rw [sl_zero]; simp only [sumD]; omega
  | x :: l, i + 1, h => by
    have := sumD_at l i (by simpa using h)
    rw [sl_cons]; simp only [sumD]; omega
end Go.Proofs.Ytmnikjhnomphmaa.La


namespace Go.Proofs.Ytmnikjhnomphmaa.La
open Go.RowKit Go.Proofs.Ytmnikjhnomphmaa.Zip Go.Proofs.YtmnikjhnomphmaaW.PrintWords Go.Proofs.YtmnikjhnomphmaaW.PrintLast Go.Proofs.YtmnikjhnomphmaaW.PrintMore Go.Proofs.Ytmnikjhnomphmaa.Q
set_option linter.unusedSimpArgs false
set_option linter.unusedVariables false
abbrev Pr := S68
abbrev kP := k68
/-- A map: its block, its row. -/
def Mp (S : Nat → Prop) (gm : Nat) (most : Int) (L : List Pr) (W : World) : Prop := ∃ v, W.heap[gm]? = some (.cells #[v, .int .i64 most] 39 (0, 0)) ∧ Kd.R kP 68 W (gm + 1) (fun k => gm < k ∧ S k) v L ∧ S gm ∧ (∀ q, W.heap.size ≤ q → S q)
section
variable {S : Nat → Prop}
theorem Mp.below {gm : Nat} {most : Int} {L : List Pr} {W W' : World} (h : Mp S gm most L W) (hb : Below W.heap.size W W') : Mp S gm most L W' := by
  obtain ⟨v, h1, h2, h3, h4⟩ := h; exact ⟨v, blk_below h1 hb, Kd.R_below h2 hb, h3, fun q hq => h4 q (Nat.le_trans hb.size hq)⟩
theorem Mp.drew {gm : Nat} {most : Int} {L : List Pr} {W : World} (h : Mp S gm most L W) : Mp S gm most L W.drew := h.below (below_drew (Below.refl _ _))
/-- What it owns, it keeps, whatever else is written. -/
theorem Mp.keep {gm : Nat} {most : Int} {L : List Pr} {W W' : World} {S2 S' : Nat → Prop} (h : Mp S gm most L W) (F : Fr S2 W W') (d1 : ∀ q, S q → q < W.heap.size → ¬ S2 q) (d2 : ∀ q, S q → q < W.heap.size → S' q) (d3 : ∀ q, W'.heap.size ≤ q → S' q) : Mp S' gm most L W' := by
  obtain ⟨v, h1, h2, h3, h4⟩ := h
  have hlt := blk_lt h1
  have R1 := Kd.R_mono (ok' := fun k => (gm < k ∧ S k) ∧ k < W.heap.size) (Kd.R_bound h2) (fun k hk => ⟨hk.1, hk.2.2.1⟩)
  have R2 := Kd.R_step (w1 := W') R1 (fun k hk hl => F.block k hl (d1 k hk.1.2 hl))
  exact ⟨v, F.blk h1 (d1 gm h3 hlt), Kd.R_mono R2 (fun k hk => ⟨hk.1.1, d2 k hk.1.2 hk.2⟩), d2 gm h3 hlt, d3⟩
/-- A key's place in rising pairs. -/
structure PlaceP (L : List Pr) (key : ByteArray) (i : Nat) (is : Bool) : Prop where
  le : i ≤ L.length
  lo : ∀ j, j < i → Op.bytesLess (rd_T68 L (j : Int)).f0.toList key.toList = true
  hi : i < L.length → Op.bytesLess (rd_T68 L (i : Int)).f0.toList key.toList = false
  iff : is = true ↔ (i < L.length ∧ (rd_T68 L (i : Int)).f0 = key)
set_option maxRecDepth 100000 in
set_option maxHeartbeats 2000000 in
theorem map_place {gm : Nat} {most : Int} {L : List Pr} {w : World} (h : Mp S gm most L w) (key : ByteArray) {i : Nat} {is : Bool} (hp : PlaceP L key i is) (hL : L.length ≤ 1000000) :
    Calls Try.prog 35 #[.pointer (some ⟨gm, 0, none⟩), .string key] w fun e w' => e = .returned (.tuple #[.int .i64 (i : Int), .bool is]) ∧ Below w.heap.size w w' := by
  obtain ⟨v, hv, hR, _⟩ := h
  obtain ⟨A, c, rfl⟩ := Kd.R_slice hR
  have HC := Aside0.mk (Kd.R_reads' hR).2.2
  have c0 := (blk_cell hv 0).trans rfl
  have HLn := Aside0.mk hL
  have HP := Aside0.mk hp
  clear hv hR hL hp
  go_enter Try.func35, Try.ntmps35
  go_wp2
  go_loopw [6] (fun v6 w' => ∃ j : Nat, v6 = .int .i64 j ∧ Aside0 (j ≤ i) ∧ w' = w) (fun v6 _ => i - (intOf v6).toNat)
  case atStart => exact ⟨0, rfl, ⟨Nat.zero_le _⟩, rfl⟩
  case round =>
    obtain ⟨j, rfl, HJ, rfl⟩ := hrel
    by_cases hj : j < i
    · have hjl : j < L.length := by have := HP.out.le; omega
      have d2 : decide (j < L.length) = true := decide_eq_true hjl
      obtain ⟨ad, ea, x0, x1⟩ := at_T68 HC.out (j : Int) (by omega) (by omega)
      subst ea
      simp only [Int.toNat_natCast] at x0 x1
      have hl := HP.out.lo j hj
      have DW := Aside0.mk (show wrap64 ((j : Int) + 1) = ((j + 1 : Nat) : Int) by have := HLn.out; unfold wrap64; omega)
      have HJ2 := Aside0.mk hj
      clear hj
      go_wp2
      go_roundw
      case rel => exact ⟨j + 1, by first | rfl | rw [DW.out], ⟨by have := HJ2.out; omega⟩, by first | trivial | rfl⟩
      case measure => (try rw [DW.out]); simp only [intOf]; have := HJ2.out; omega
    · obtain rfl : j = i := by have := HJ.out; omega
      clear hj
      have c0d : wr.drew.cell? ⟨gm, 0, none⟩ = some (.slice A L.length c) := c0
      by_cases hjl : j < L.length
      · have d2 : decide (j < L.length) = true := decide_eq_true hjl
        obtain ⟨ad, ea, x0, x1⟩ := at_T68 HC.out (j : Int) (by omega) (by omega)
        subst ea
        simp only [Int.toNat_natCast] at x0 x1
        have x0d : wr.drew.cell? (ad.add (j * 2)) = some (.string (rd_T68 L (j : Int)).f0) := x0
        have hl := HP.out.hi hjl
        have se := str_eq (rd_T68 L (j : Int)).f0 key
        have q0 := eq_true (show (0 : Int) ≤ (j : Int) by omega)
        have q1 := eq_true (show (j : Int) < (L.length : Int) by omega)
        have q2 := eq_true hjl
        by_cases hk : (rd_T68 L (j : Int)).f0 = key
        · rw [decide_eq_true hk] at se
          obtain rfl : is = true := HP.out.iff.2 ⟨hjl, hk⟩
          clear hk
          go_upto_region 4 with (fail)
          go_region
          all_goals
            go_wp2
            go_ret2
            exact ⟨rfl, by first | exact pw_below_drewN (Below.refl _ _) _ | exact below_drew (Below.refl _ _)⟩
        · rw [decide_eq_false hk] at se
          obtain rfl : is = false := by cases e : is; rfl; exact absurd (HP.out.iff.1 e).2 hk
          clear hk
          go_upto_region 4 with (fail)
          go_region
          all_goals
            go_wp2
            go_ret2
            exact ⟨rfl, by first | exact pw_below_drewN (Below.refl _ _) _ | exact below_drew (Below.refl _ _)⟩
      · have d2 : decide (j < L.length) = false := decide_eq_false hjl
        obtain rfl : is = false := by cases e : is; rfl; exact absurd (HP.out.iff.1 e).1 hjl
        go_upto_region 4 with (fail)
        go_region
        all_goals
          go_wp2
          go_ret2
          exact ⟨rfl, by first | exact pw_below_drewN (Below.refl _ _) _ | exact below_drew (Below.refl _ _)⟩
theorem may_yes {key : ByteArray} (h : 1 ≤ key.size ∧ key.size ≤ 33) : sandglassref05_May.f key = some true := by
  unfold sandglassref05_May.f; rw [if_pos (by omega), decide_eq_true (by omega)]
theorem may_no {key : ByteArray} (h : key.size = 0 ∨ key.size > 33) : sandglassref05_May.f key = some false := by
  unfold sandglassref05_May.f
  by_cases h1 : (key.size : Int) ≥ 1
  · rw [if_pos h1, decide_eq_false (by omega)]
  · rw [if_neg h1]
theorem Mp.cells {gm : Nat} {most : Int} {L : List Pr} {w : World} (h : Mp S gm most L w) : ∃ A c, w.cell? ⟨gm, 0, none⟩ = some (.slice A L.length c) ∧ w.cell? ⟨gm, 1, none⟩ = some (.int .i64 most) ∧ Kd.C kP w A L.length L ∧ L.length ≤ c := by
  obtain ⟨v, hv, hR, _⟩ := h
  obtain ⟨A, c, rfl⟩ := Kd.R_slice hR
  exact ⟨A, c, (blk_cell hv 0).trans rfl, (blk_cell hv 1).trans rfl, (Kd.R_reads' hR).2.2, (Kd.R_reads' hR).2.1⟩
set_option maxRecDepth 100000 in
set_option maxHeartbeats 2000000 in
theorem map_get {gm : Nat} {most : Int} {L : List Pr} {w : World} (h : Mp S gm most L w) (key : ByteArray) {i : Nat} {is : Bool} (hp : PlaceP L key i is) (hL : L.length ≤ 1000000) :
    Calls Try.prog 21 #[.pointer (some ⟨gm, 0, none⟩), .string key] w fun e w' => e = .returned (.tuple #[.int .i64 (if is = true then (rd_T68 L (i : Int)).f1 else 0), .bool is]) ∧ Below w.heap.size w w' := by
  have HH := Aside0.mk h
  have HP := Aside0.mk hp
  have HL := Aside0.mk hL
  clear h hp hL
  go_enter Try.func21, Try.ntmps21
  go_upto_region 2 with (go_at_call 35; refine (map_place HH.out key HP.out HL.out).mono ?_; rintro e w1 ⟨rfl, hb⟩; have HB := Aside0.mk hb; replace HH := Aside0.mk (HH.out.below hb); clear hb)
  cases is with
  | false =>
    go_wp2
    go_ret2
    exact ⟨rfl, HB.out⟩
  | true =>
    obtain ⟨A, c, c0, c1, hC, hlc⟩ := HH.out.cells
    have hi := (HP.out.iff.1 rfl).1
    obtain ⟨ad, ea, x0, x1⟩ := at_T68 hC (i : Int) (by omega) (by omega)
    subst ea
    simp only [Int.toNat_natCast] at x0 x1
    clear hC
    go_wp2
    go_ret2
    exact ⟨rfl, HB.out⟩
theorem R_empty {g base : Nat} {W : World} {ok : Nat → Prop} (hg : W.heap[g]? = some (.cells #[] 68 (0, 0))) (hb : base ≤ g) (ho : ok g) : Kd.R kP 68 W base ok (.slice (some ⟨g, 0, none⟩) 0 0) [] := by
  refine ⟨fun k hk => ?_, [], ⟨rfl, Or.inr ⟨g, 0, #[], rfl, hb, hg, Nat.le_refl _, Nat.zero_le _, rfl, rfl⟩⟩, Reps.none _ _⟩
  have : g = k := by simpa [Value.ownBlock] using hk
  subst this
  exact ho
set_option maxRecDepth 100000 in
set_option maxHeartbeats 2000000 in
theorem map_put_new {gm : Nat} {most : Int} {L : List Pr} {w : World} (h : Mp S gm most L w) (key : ByteArray) (val : Int) (hk : 1 ≤ key.size ∧ key.size ≤ 33) {i : Nat} (hp : PlaceP L key i false) (hL : L.length ≤ 1000000) (hm : (L.length : Int) < most) :
    Calls Try.prog 22 #[.pointer (some ⟨gm, 0, none⟩), .string key, .int .i64 val] w fun e w' => e = .returned (.int .i64 0) ∧ Mp S gm most (L.take i ++ [⟨key, val⟩] ++ L.drop i) w' ∧ Fr S w w' := by
  have HH := Aside0.mk h
  have HP := Aside0.mk hp
  have HL := Aside0.mk hL
  have HM := Aside0.mk (may_yes hk)
  have HGM := Aside0.mk (show gm < w.heap.size by obtain ⟨v_, hv_, _⟩ := h; exact blk_lt hv_)
  have HST := Aside0.mk (show S gm ∧ ∀ q, w.heap.size ≤ q → S q by obtain ⟨_, _, _, h3, h4⟩ := h; exact ⟨h3, h4⟩)
  have inf : (Try.prog.info? 68).map (fun i => (i.zero, i.size, i.bytes)) = some (some (.agg #[(.string ⟨#[]⟩), (.int .i64 0)]), kP.sz, 24) := by kernel_rfl
  have dm : decide (most ≤ (L.length : Int)) = false := decide_eq_false (by omega)
  obtain ⟨L7, hL7⟩ : ∃ L7, L.take i ++ [(⟨key, val⟩ : Pr)] ++ L.drop i = L7 := ⟨_, rfl⟩
  rw [hL7]
  have HL7 := Aside0.mk hL7
  clear h hp hL hk hL7
  go_enter Try.func22, Try.ntmps22
  go_upto_region 3 with (go_at_call 36; refine (sandglassref05_May.calls key _ _ HM.out).mono ?_; rintro e w1 ⟨rfl, hd⟩; have HB := Aside0.mk hd.below; replace HH := Aside0.mk (HH.out.below hd.below); clear hd)
  go_upto_region 4 with (go_at_call 35; refine (map_place HH.out key HP.out HL.out).mono ?_; rintro e w2 ⟨rfl, hb⟩; replace HB := Aside0.mk (HB.out.trans (hb.mono HB.out.size)); replace HH := Aside0.mk (HH.out.below hb); clear hb)
  obtain ⟨A, c, c0, c1, hC, hlc⟩ := HH.out.cells
  have c0d : w2.drew.cell? ⟨gm, 0, none⟩ = some (.slice A L.length c) := c0
  have c1d : w2.drew.cell? ⟨gm, 1, none⟩ = some (.int .i64 most) := c1
  have HC := Aside0.mk hC
  have q0 := eq_true (show (0 : Int) ≤ (i : Int) by omega)
  have hic : i ≤ c := by have := HP.out.le; omega
  have q1 := eq_true (show (i : Int) ≤ (c : Int) by omega)
  have q2 : decide (i ≤ c) = true := decide_eq_true hic
  have HLC := Aside0.mk hlc
  clear hC hlc
  go_upto_region 7 with (fail)
  go_region
  all_goals
    go_upto_region 9 with (fail)
    have c0a : (w2.alloc (.cells #[] 68)).cell? ⟨gm, 0, none⟩ = some (.slice A L.length c) := pw_cell_below (below_alloc (Below.refl _ _) _) c0
    have HC2 := Aside0.mk (show Kd.C kP (w2.alloc (.cells #[] 68)) A i (L.take i) from by have := Kd.C_take (Kd.C_below HC.out (below_alloc (Below.refl _ _) (.cells #[] 68))) HP.out.le; rwa [List.length_take, Nat.min_eq_left HP.out.le] at this)
    have HE := Aside0.mk (R_empty (ok := fun k => w2.heap.size ≤ k) (blk_new w2 (.cells #[] 68)) (Nat.le_refl _) (Nat.le_refl _))
    have HBa := Aside0.mk (below_alloc (Below.refl w2.heap.size w2) (.cells #[] 68))
    have HTL := Aside0.mk (show (L.take i).length ≤ 1000000 by rw [List.length_take]; have := HL.out; omega)
    go_upto_region 10 with (((with_reducible refine gate_builtin (b := .append) (xs := #[.tmp 38, .tmp 44]) rfl ?_); at_builtin; refine Kd.R_append_rows kP (w0 := w2) w2.heap.size rfl (.tmp 38) (.tmp 44) 37 68 (.agg #[(.string ⟨#[]⟩), (.int .i64 0)]) 24 rfl Try.underlying37 inf rfl (by decide) (by omega) (.slice (some ⟨w2.heap.size, 0, none⟩) 0 0) [] (L.take i) A i c (fun k_ => w2.heap.size ≤ k_) (fun _ => False) rfl rfl HE.out HC2.out (fun _ _ h => h) (fun _ h => h.elim) (fun _ hk => Nat.le_trans HBa.out.size hk) (by first | exact HBa.out | exact below_drew HBa.out) HBa.out.size (by have := HL.out; have := HP.out.le; show (0 + i) * 24 ≤ 140737488355328; omega) ?_; intro v5 w5 ho hb5 hg5 hat5; have HO5 := Aside0.mk ho; have HB5 := Aside0.mk hb5; clear ho hb5 hg5 hat5 c0a))
    clear HE HC2 HBa
    go_upto_region 11 with (((with_reducible refine gate_builtin (b := .append) (xs := #[.tmp 46, .tmp 50]) rfl ?_); at_builtin; refine Kd.R_append kP (w0 := w2) w2.heap.size rfl (.tmp 46) (.tmp 50) 37 68 (.agg #[(.string ⟨#[]⟩), (.int .i64 0)]) 24 rfl Try.underlying37 inf rfl (by decide) (by omega) v5 (L.take i) (⟨key, val⟩ : Pr) [.string key, .int .i64 val] (fun k_ => w2.heap.size ≤ k_) (fun _ => False) rfl rfl (k68_mkM _ _ _ _) (fun _ h => h.elim) (fun _ hk => Nat.le_trans HB5.out.size hk) HO5.out HB5.out HB5.out.size (by have := HTL.out; omega) ?_; intro v6 w6 ho hb6 hg6 hat6; have HO6 := Aside0.mk ho; have HB6 := Aside0.mk hb6; clear ho hb6 hg6 hat6))
    have c06 : w6.cell? ⟨gm, 0, none⟩ = some (.slice A L.length c) := pw_cell_below HB6.out c0
    have c06d : w6.drew.cell? ⟨gm, 0, none⟩ = some (.slice A L.length c) := c06
    have q3 : decide (i ≤ L.length) = true := decide_eq_true HP.out.le
    have z6 : w6.frozen? ⟨gm, 0, none⟩ = false := by obtain ⟨v_, hv_, _⟩ := HH.out; exact blk_frozen (blk_below hv_ HB6.out) 0
    have HC6 := Aside0.mk (Kd.C_drop (Kd.C_below HC.out HB6.out) HP.out.le HLC.out)
    have q4 := eq_true HP.out.le
    by_cases hci : c = i
    · subst hci
      go_upto_region 12 with (((with_reducible refine gate_builtin (b := .append) (xs := #[.tmp 53, .tmp 59]) rfl ?_); at_builtin; refine Kd.R_append_rows kP (w0 := w2) w2.heap.size rfl (.tmp 53) (.tmp 59) 37 68 (.agg #[(.string ⟨#[]⟩), (.int .i64 0)]) 24 rfl Try.underlying37 inf rfl (by decide) (by omega) v6 _ (L.drop c) _ _ _ (fun k_ => w2.heap.size ≤ k_) (fun _ => False) rfl rfl HO6.out (by have := HC6.out; rw [if_pos rfl, List.length_drop] at this; exact this) (fun _ _ h => h) (fun _ h => h.elim) (fun _ hk => Nat.le_trans HB6.out.size hk) (by first | exact HB6.out | exact below_drew HB6.out) HB6.out.size (by have := HL.out; have := HTL.out; simp; omega) ?_; intro v7 w7 ho hb7 hg7 hat7; replace ho : Kd.R kP 68 w7 w2.heap.size (fun k_ => w2.heap.size ≤ k_) v7 L7 := (by rw [← HL7.out]; exact ho); obtain ⟨A7, c7, rfl⟩ := Kd.R_slice ho; have HO7 := Aside0.mk ho; have HB7 := Aside0.mk hb7; have c07 : w7.cell? ⟨gm, 0, none⟩ = _ := pw_cell_below hb7 c0; have z7 : w7.frozen? ⟨gm, 0, none⟩ = false := (by obtain ⟨v_, hv_, _⟩ := HH.out; exact blk_frozen (blk_below hv_ hb7) 0); clear ho hb7 hg7 hat7))
      go_wp2
      go_ret
      have hgm : gm < w2.heap.size := by obtain ⟨v_, hv_, _⟩ := HH.out; exact blk_lt hv_
      have F : Fr S w (w7.setCell ⟨gm, 0, none⟩ (.slice A7 L7.length c7)) := ((Fr.of_below HB.out S).trans (Fr.of_below HB7.out S)).set ⟨gm, 0, none⟩ (Or.inl HST.out.1) _
      refine ⟨rfl, ⟨.slice A7 L7.length c7, ?_, ?_, HST.out.1, fun q hq => HST.out.2 q (Nat.le_trans F.size hq)⟩, F⟩
      · obtain ⟨v_, hv_, _⟩ := HH.out
        exact blk_put (blk_below hv_ HB7.out) 0 _ rfl
      · have := Kd.R_far (p := ⟨gm, 0, none⟩) HO7.out (fun k hk => by have : w2.heap.size ≤ k := hk; show k ≠ gm; omega) (.slice A7 L7.length c7)
        exact Kd.R_mono (Kd.R_lower this (by omega)) (fun k hk => by have h9 : w2.heap.size ≤ k := hk; exact ⟨by omega, HST.out.2 k (by have := HB.out.size; omega)⟩)
    · have hcn : (c = i) = False := eq_false hci
      go_upto_region 12 with (((with_reducible refine gate_builtin (b := .append) (xs := #[.tmp 53, .tmp 59]) rfl ?_); at_builtin; refine Kd.R_append_rows kP (w0 := w2) w2.heap.size rfl (.tmp 53) (.tmp 59) 37 68 (.agg #[(.string ⟨#[]⟩), (.int .i64 0)]) 24 rfl Try.underlying37 inf rfl (by decide) (by omega) v6 _ (L.drop i) _ _ _ (fun k_ => w2.heap.size ≤ k_) (fun _ => False) rfl rfl HO6.out (by have := HC6.out; rw [if_neg hci, List.length_drop] at this; exact this) (fun _ _ h => h) (fun _ h => h.elim) (fun _ hk => Nat.le_trans HB6.out.size hk) (by first | exact HB6.out | exact below_drew HB6.out) HB6.out.size (by have := HL.out; have := HTL.out; simp; omega) ?_; intro v7 w7 ho hb7 hg7 hat7; replace ho : Kd.R kP 68 w7 w2.heap.size (fun k_ => w2.heap.size ≤ k_) v7 L7 := (by rw [← HL7.out]; exact ho); obtain ⟨A7, c7, rfl⟩ := Kd.R_slice ho; have HO7 := Aside0.mk ho; have HB7 := Aside0.mk hb7; have c07 : w7.cell? ⟨gm, 0, none⟩ = _ := pw_cell_below hb7 c0; have z7 : w7.frozen? ⟨gm, 0, none⟩ = false := (by obtain ⟨v_, hv_, _⟩ := HH.out; exact blk_frozen (blk_below hv_ hb7) 0); clear ho hb7 hg7 hat7))
      go_wp2
      go_ret
      have hgm : gm < w2.heap.size := by obtain ⟨v_, hv_, _⟩ := HH.out; exact blk_lt hv_
      have F : Fr S w (w7.setCell ⟨gm, 0, none⟩ (.slice A7 L7.length c7)) := ((Fr.of_below HB.out S).trans (Fr.of_below HB7.out S)).set ⟨gm, 0, none⟩ (Or.inl HST.out.1) _
      refine ⟨rfl, ⟨.slice A7 L7.length c7, ?_, ?_, HST.out.1, fun q hq => HST.out.2 q (Nat.le_trans F.size hq)⟩, F⟩
      · obtain ⟨v_, hv_, _⟩ := HH.out
        exact blk_put (blk_below hv_ HB7.out) 0 _ rfl
      · have := Kd.R_far (p := ⟨gm, 0, none⟩) HO7.out (fun k hk => by have : w2.heap.size ≤ k := hk; show k ≠ gm; omega) (.slice A7 L7.length c7)
        exact Kd.R_mono (Kd.R_lower this (by omega)) (fun k hk => by have h9 : w2.heap.size ≤ k := hk; exact ⟨by omega, HST.out.2 k (by have := HB.out.size; omega)⟩)
end
end Go.Proofs.Ytmnikjhnomphmaa.La


namespace Go.Proofs.Ytmnikjhnomphmaa.La
open Go.RowKit Go.Proofs.YtmnikjhnomphmaaW.PrintWords Go.Proofs.YtmnikjhnomphmaaW.PrintLast Go.Proofs.YtmnikjhnomphmaaW.PrintMore Go.Proofs.Ytmnikjhnomphmaa.Q
set_option linter.unusedSimpArgs false
set_option linter.unusedVariables false
theorem wr {x : Int} (h0 : -9223372036854775808 ≤ x) (h1 : x < 9223372036854775808) : wrap64 x = x := by unfold wrap64; omega
/-- A key stands in a table, with a value. -/
def Has (l : List Sl) (k : ByteArray) (v : Int) : Prop := ∃ i, i < l.length ∧ (sl l i).f0 = true ∧ (sl l i).f1 = k ∧ (sl l i).f2 = v
theorem has_set {l : List Sl} {i : Nat} (hi : i < l.length) {x : Sl} (hx : x.f0 = true) (k : ByteArray) (v : Int) : Has (l.set i x) k v ↔ (x.f1 = k ∧ x.f2 = v) ∨ ∃ j, j < l.length ∧ j ≠ i ∧ (sl l j).f0 = true ∧ (sl l j).f1 = k ∧ (sl l j).f2 = v := by
  constructor
  · rintro ⟨j, h1, h2, h3, h4⟩
    rw [List.length_set] at h1
    by_cases e : i = j
    · subst e; rw [sl_self hi] at h3 h4; exact Or.inl ⟨h3, h4⟩
    · rw [sl_ne hi _ e] at h2 h3 h4; exact Or.inr ⟨j, h1, fun q => e q.symm, h2, h3, h4⟩
  · rintro (⟨h1, h2⟩ | ⟨j, h1, h2, h3, h4, h5⟩)
    · exact ⟨i, by rw [List.length_set]; exact hi, by rw [sl_self hi]; exact hx, by rw [sl_self hi]; exact h1, by rw [sl_self hi]; exact h2⟩
    · have e : i ≠ j := fun q => h2 q.symm
      exact ⟨j, by rw [List.length_set]; exact h1, by rw [sl_ne hi _ e]; exact h3, by rw [sl_ne hi _ e]; exact h4, by rw [sl_ne hi _ e]; exact h5⟩
theorem inv_put {hm : ByteArray → Nat} {l : List Sl} {i d : Nat} {x : Sl} (h2 : 2 ≤ l.length) (hi : i < l.length) (I : Inv hm l) (xu : x.f0 = true) (xd : x.f3 = (d : Int)) (dn : d < l.length) (xh : (hm x.f1 + d) % l.length = i)
    (xp : ∀ p, p < l.length → (p + 1) % l.length = i → 0 < d → (sl l p).f0 = true ∧ (d : Int) ≤ (sl l p).f3 + 1) (xn : ∀ j, j < l.length → (sl l j).f0 = true → (sl l j).f1 ≠ x.f1)
    (nx : (sl l ((i + 1) % l.length)).f0 = true → 0 < (sl l ((i + 1) % l.length)).f3 → (sl l ((i + 1) % l.length)).f3 ≤ x.f3 + 1) : Inv hm (l.set i x) := by
  have hne : ∀ p, p < l.length → (p + 1) % l.length ≠ p := fun p hp => add_ne hp (by omega) (by omega)
  refine ⟨?_, ?_, ?_, ?_⟩
  · intro j hj hu
    rw [List.length_set] at hj ⊢
    by_cases e : i = j
    · subst e; rw [sl_self hi]; exact ⟨d, xd, dn, xh⟩
    · rw [sl_ne hi _ e] at hu ⊢; exact I.pos j hj hu
  · intro j hj
    rw [List.length_set] at hj ⊢
    by_cases e : i = (j + 1) % l.length
    · rw [← e, sl_self hi, sl_ne hi _ (fun q => hne j hj (by rw [← e, q]))]
      intro _ h0
      rw [xd] at h0 ⊢
      exact xp j hj e.symm (by omega)
    · rw [sl_ne hi _ e]
      by_cases e2 : i = j
      · subst e2
        rw [sl_self hi]
        intro h3 h4
        exact ⟨xu, nx h3 h4⟩
      · rw [sl_ne hi _ e2]; exact I.prev j hj
  · intro a c ha hc
    rw [List.length_set] at ha hc
    by_cases e : i = a
    · subst e
      by_cases e2 : i = c
      · intro _ _ _; exact e2
      · rw [sl_self hi, sl_ne hi _ e2]
        intro _ h3 h4; exact absurd h4.symm (xn c hc h3)
    · by_cases e2 : i = c
      · subst e2
        rw [sl_self hi, sl_ne hi _ e]
        intro h3 _ h4; exact absurd h4 (xn a ha h3)
      · rw [sl_ne hi _ e, sl_ne hi _ e2]; exact I.uniq a c ha hc
  · intro j hj
    rw [List.length_set] at hj
    by_cases e : i = j
    · subst e; rw [sl_self hi, xu]; intro h; cases h
    · rw [sl_ne hi _ e]; exact I.zero j hj
theorem putL_ok (hm : ByteArray → Nat) : ∀ (m : Nat) (l : List Sl) (i u d : Nat) (x : Sl), 2 ≤ l.length → l.length ≤ 100000 → i < l.length → u < l.length → (sl l u).f0 = false → (i + m) % l.length = u → d + m < l.length → Inv hm l → x.f0 = true → x.f3 = (d : Int) → (hm x.f1 + d) % l.length = i →
    (∀ p, p < l.length → (p + 1) % l.length = i → 0 < d → (sl l p).f0 = true ∧ (d : Int) ≤ (sl l p).f3 + 1) → (∀ j, j < l.length → (sl l j).f0 = true → (sl l j).f1 ≠ x.f1) → ∀ k, m + 1 ≤ k →
    ∃ l', putL k l i x = some l' ∧ Inv hm l' ∧ l'.length = l.length ∧ cnt l' = cnt l + 1 ∧ ∀ key v, Has l' key v ↔ Has l key v ∨ (x.f1 = key ∧ x.f2 = v) := by
  intro m
  induction m with
  | zero =>
    intro l i u d x h2 hN hi hu huf hiu hdm I xu xd xh xp xn k hk
    obtain ⟨k, rfl⟩ : ∃ q, k = q + 1 := ⟨k - 1, by omega⟩
    rw [Nat.add_zero, Nat.mod_eq_of_lt hi] at hiu
    subst hiu
    refine ⟨l.set i x, ?_, ?_, List.length_set .., ?_, ?_⟩
    · rw [putL]; exact if_pos huf
    · refine inv_put h2 hi I xu xd (by omega) xh xp xn (fun h3 h4 => ?_)
      have := (I.prev i hi h3 h4).1
      rw [huf] at this; cases this
    · have := cnt_set l i x hi
      simp only [bn, huf, xu] at this
      simpa using this
    · intro key v
      rw [has_set hi xu]
      constructor
      · rintro (h | ⟨j, h1, h3, h4, h5, h6⟩)
        · exact Or.inr h
        · exact Or.inl ⟨j, h1, h4, h5, h6⟩
      · rintro (⟨j, h1, h4, h5, h6⟩ | h)
        · exact Or.inr ⟨j, h1, (fun e => by rw [e, huf] at h4; cases h4), h4, h5, h6⟩
        · exact Or.inl h
  | succ m ih =>
    intro l i u d x h2 hN hi hu huf hiu hdm I xu xd xh xp xn k hk
    obtain ⟨k, rfl⟩ : ∃ q, k = q + 1 := ⟨k - 1, by omega⟩
    by_cases hf : (sl l i).f0 = false
    · refine ⟨l.set i x, ?_, ?_, List.length_set .., ?_, ?_⟩
      · rw [putL]; exact if_pos hf
      · refine inv_put h2 hi I xu xd (by omega) xh xp xn (fun h3 h4 => ?_)
        have := (I.prev i hi h3 h4).1
        rw [hf] at this; cases this
      · have := cnt_set l i x hi
        simp only [bn, hf, xu] at this
        simpa using this
      · intro key v
        rw [has_set hi xu]
        constructor
        · rintro (h | ⟨j, h1, h3, h4, h5, h6⟩)
          · exact Or.inr h
          · exact Or.inl ⟨j, h1, h4, h5, h6⟩
        · rintro (⟨j, h1, h4, h5, h6⟩ | h)
          · exact Or.inr ⟨j, h1, (fun e => by rw [e, hf] at h4; cases h4), h4, h5, h6⟩
          · exact Or.inl h
    have hfu : (sl l i).f0 = true := by rw [Bool.not_eq_false] at hf; exact hf
    have hiu2 : i ≠ u := fun e => by rw [e, huf] at hfu; cases hfu
    have hi2 : (i + 1) % l.length < l.length := Nat.mod_lt _ (by omega)
    have hst : ((i + 1) % l.length + m) % l.length = u := by rw [Nat.mod_add_mod, ← hiu]; congr 1; omega
    obtain ⟨ds, s1, s2, s3⟩ := I.pos i hi hfu
    by_cases hlt : (sl l i).f3 < x.f3
    · have e : putL (k + 1) l i x = putL k (l.set i x) ((i + 1) % l.length) ⟨(sl l i).f0, (sl l i).f1, (sl l i).f2, wrap64 ((sl l i).f3 + 1)⟩ := by
        rw [putL]; exact (if_neg hf).trans (if_pos hlt)
      have I1 : Inv hm (l.set i x) := inv_put h2 hi I xu xd (by omega) xh xp xn (fun h3 h4 => by
        have := (I.prev i hi h3 h4).2; omega)
      have hw : wrap64 ((sl l i).f3 + 1) = ((ds + 1 : Nat) : Int) := by rw [wr (by omega) (by omega)]; omega
      obtain ⟨l', r1, r2, r3, r4, r5⟩ := ih (l.set i x) ((i + 1) % l.length) u (ds + 1) ⟨(sl l i).f0, (sl l i).f1, (sl l i).f2, wrap64 ((sl l i).f3 + 1)⟩ (by rw [List.length_set]; exact h2) (by rw [List.length_set]; exact hN) (by rw [List.length_set]; exact hi2) (by rw [List.length_set]; exact hu) (by rw [sl_ne hi _ hiu2]; exact huf) (by rw [List.length_set]; exact hst) (by rw [List.length_set]; omega) I1 hfu hw (by rw [List.length_set]; show (hm (sl l i).f1 + (ds + 1)) % l.length = _; rw [step_mod, s3])
        (by
          rw [List.length_set]
          intro p hp hpe _
          obtain rfl := nx_inj hp hi hpe
          rw [sl_self hi]
          exact ⟨xu, by rw [xd]; omega⟩)
        (by
          rw [List.length_set]
          intro j hj hju
          by_cases e2 : i = j
          · subst e2; rw [sl_self hi]; exact fun q => xn i hi hfu q.symm
          · rw [sl_ne hi _ e2] at hju ⊢
            exact fun q => e2 (I.uniq i j hi hj hfu hju q.symm)) k (by omega)
      refine ⟨l', e.trans r1, r2, r3.trans (List.length_set ..), ?_, ?_⟩
      · have := cnt_set l i x hi
        simp only [bn, hfu, xu, if_true] at this
        omega
      · intro key v
        rw [r5, has_set hi xu]
        constructor
        · rintro ((h | ⟨j, h1, h3, h4, h5, h6⟩) | h)
          · exact Or.inr h
          · exact Or.inl ⟨j, h1, h4, h5, h6⟩
          · exact Or.inl ⟨i, hi, hfu, h.1, h.2⟩
        · rintro (⟨j, h1, h4, h5, h6⟩ | h)
          · by_cases e2 : j = i
            · subst e2; exact Or.inr ⟨h5, h6⟩
            · exact Or.inl (Or.inr ⟨j, h1, e2, h4, h5, h6⟩)
          · exact Or.inl (Or.inl h)
    · have e : putL (k + 1) l i x = putL k l ((i + 1) % l.length) ⟨x.f0, x.f1, x.f2, wrap64 (x.f3 + 1)⟩ := by
        rw [putL]; exact (if_neg hf).trans (if_neg hlt)
      have hw : wrap64 (x.f3 + 1) = ((d + 1 : Nat) : Int) := by rw [wr (by omega) (by omega)]; omega
      obtain ⟨l', r1, r2, r3, r4, r5⟩ := ih l ((i + 1) % l.length) u (d + 1) ⟨x.f0, x.f1, x.f2, wrap64 (x.f3 + 1)⟩ h2 hN hi2 hu huf hst (by omega) I xu hw (by show (hm x.f1 + (d + 1)) % l.length = _; rw [step_mod, xh])
        (by
          intro p hp hpe _
          obtain rfl := nx_inj hp hi hpe
          exact ⟨hfu, by omega⟩) xn k (by omega)
      exact ⟨l', e.trans r1, r2, r3, r4, r5⟩
/-- Well but for a hole, where what stood is still to be seen. -/
structure InvH (hm : ByteArray → Nat) (l : List Sl) (i : Nat) : Prop where
  hi : i < l.length
  used : (sl l i).f0 = true
  pos : ∀ i, i < l.length → (sl l i).f0 = true → ∃ d : Nat, (sl l i).f3 = (d : Int) ∧ d < l.length ∧ (hm (sl l i).f1 + d) % l.length = i
  prev : ∀ i, i < l.length → (sl l ((i + 1) % l.length)).f0 = true → 0 < (sl l ((i + 1) % l.length)).f3 → (sl l i).f0 = true ∧ (sl l ((i + 1) % l.length)).f3 ≤ (sl l i).f3 + 1
  uniq : ∀ a c, a < l.length → c < l.length → a ≠ i → c ≠ i → (sl l a).f0 = true → (sl l c).f0 = true → (sl l a).f1 = (sl l c).f1 → a = c
  zero : ∀ i, i < l.length → (sl l i).f0 = false → sl l i = zeroS
theorem Inv.hole {hm : ByteArray → Nat} {l : List Sl} {i : Nat} (I : Inv hm l) (hi : i < l.length) (hu : (sl l i).f0 = true) : InvH hm l i := ⟨hi, hu, I.pos, I.prev, fun a c ha hc _ _ => I.uniq a c ha hc, I.zero⟩
def HasX (l : List Sl) (i : Nat) (k : ByteArray) (v : Int) : Prop := ∃ j, j < l.length ∧ j ≠ i ∧ (sl l j).f0 = true ∧ (sl l j).f1 = k ∧ (sl l j).f2 = v
theorem delL_ok (hm : ByteArray → Nat) : ∀ (T : Nat) (l : List Sl) (i : Nat), 2 ≤ l.length → l.length ≤ 100000 → InvH hm l i → sumD l = T + (sl l i).f3.toNat → ∀ k, T + 1 ≤ k →
    ∃ m j, delL k l i = some (m, j) ∧ InvH hm m j ∧ m.length = l.length ∧ cnt m = cnt l ∧ ((sl m ((j + 1) % m.length)).f0 = false ∨ (sl m ((j + 1) % m.length)).f3 = 0) ∧ ∀ key v, HasX m j key v ↔ HasX l i key v := by
  intro T
  induction T with
  | zero =>
    intro l i h2 hN I hT k hk
    obtain ⟨k, rfl⟩ : ∃ q, k = q + 1 := ⟨k - 1, by omega⟩
    have hj : (i + 1) % l.length < l.length := Nat.mod_lt _ (by omega)
    have hne : (i + 1) % l.length ≠ i := add_ne I.hi (by omega) (by omega)
    have hz : (sl l ((i + 1) % l.length)).f0 = false ∨ (sl l ((i + 1) % l.length)).f3 = 0 := by
      by_cases hf : (sl l ((i + 1) % l.length)).f0 = false
      · exact Or.inl hf
      · rw [Bool.not_eq_false] at hf
        obtain ⟨d, d1, _, _⟩ := I.pos _ hj hf
        have q := sumD_set l i zeroS I.hi
        have q2 := sumD_at (l.set i zeroS) ((i + 1) % l.length) (by rw [List.length_set]; exact hj)
        rw [sl_ne I.hi _ (fun e => hne e.symm)] at q2
        have q3 : zeroS.f3.toNat = 0 := rfl
        right; omega
    refine ⟨l, i, ?_, I, rfl, rfl, hz, fun _ _ => Iff.rfl⟩
    rw [delL]
    rcases hz with hz | hz
    · exact if_pos hz
    · by_cases hf : (sl l ((i + 1) % l.length)).f0 = false
      · exact if_pos hf
      · exact (if_neg hf).trans (if_pos hz)
  | succ T ih =>
    intro l i h2 hN I hT k hk
    obtain ⟨k, rfl⟩ : ∃ q, k = q + 1 := ⟨k - 1, by omega⟩
    have hi := I.hi
    have hj : (i + 1) % l.length < l.length := Nat.mod_lt _ (by omega)
    have hne : (i + 1) % l.length ≠ i := add_ne hi (by omega) (by omega)
    have hne2 : i ≠ (i + 1) % l.length := fun e => hne e.symm
    by_cases hf : (sl l ((i + 1) % l.length)).f0 = false
    · exact ⟨l, i, by rw [delL]; exact if_pos hf, I, rfl, rfl, Or.inl hf, fun _ _ => Iff.rfl⟩
    by_cases hz : (sl l ((i + 1) % l.length)).f3 = 0
    · exact ⟨l, i, by rw [delL]; exact (if_neg hf).trans (if_pos hz), I, rfl, rfl, Or.inr hz, fun _ _ => Iff.rfl⟩
    have hfu : (sl l ((i + 1) % l.length)).f0 = true := by rw [Bool.not_eq_false] at hf; exact hf
    obtain ⟨d, d1, d2, d3⟩ := I.pos _ hj hfu
    obtain ⟨di, e1, e2, e3⟩ := I.pos i hi I.used
    obtain ⟨d0, rfl⟩ : ∃ q, d = q + 1 := ⟨d - 1, by omega⟩
    have hprev := (I.prev i hi hfu (by omega)).2
    have hw : wrap64 ((sl l ((i + 1) % l.length)).f3 - 1) = (d0 : Int) := by rw [wr (by omega) (by omega)]; omega
    have hd0 : (hm (sl l ((i + 1) % l.length)).f1 + d0) % l.length = i := nx_inj (Nat.mod_lt _ (by omega)) hi (by rw [← step_mod]; exact d3)
    have e : delL (k + 1) l i = delL k (l.set i ⟨(sl l ((i + 1) % l.length)).f0, (sl l ((i + 1) % l.length)).f1, (sl l ((i + 1) % l.length)).f2, wrap64 ((sl l ((i + 1) % l.length)).f3 - 1)⟩) ((i + 1) % l.length) := by
      rw [delL]; exact (if_neg hf).trans (if_neg hz)
    rw [hw] at e
    obtain ⟨x, hx⟩ : ∃ x : Sl, x = ⟨(sl l ((i + 1) % l.length)).f0, (sl l ((i + 1) % l.length)).f1, (sl l ((i + 1) % l.length)).f2, (d0 : Int)⟩ := ⟨_, rfl⟩
    have x0 : x.f0 = true := by rw [hx]; exact hfu
    have x1 : x.f1 = (sl l ((i + 1) % l.length)).f1 := by rw [hx]
    have x2 : x.f2 = (sl l ((i + 1) % l.length)).f2 := by rw [hx]
    have x3 : x.f3 = (d0 : Int) := by rw [hx]
    rw [← hx] at e
    clear hx hw
    have I1 : InvH hm (l.set i x) ((i + 1) % l.length) := by
      refine ⟨by rw [List.length_set]; exact hj, by rw [sl_ne hi _ hne2]; exact hfu, ?_, ?_, ?_, ?_⟩
      · intro a ha hu
        rw [List.length_set] at ha ⊢
        by_cases c : i = a
        · subst c; rw [sl_self hi]; exact ⟨d0, x3, by omega, by rw [x1]; exact hd0⟩
        · rw [sl_ne hi _ c] at hu ⊢; exact I.pos a ha hu
      · intro p hp
        rw [List.length_set] at hp ⊢
        have hpn : (p + 1) % l.length ≠ p := add_ne hp (by omega) (by omega)
        by_cases c : i = (p + 1) % l.length
        · rw [← c, sl_self hi, sl_ne hi _ (fun q => hpn (by rw [← c, q]))]
          intro _ h0
          have := I.prev p hp (by rw [← c]; exact I.used) (by rw [← c]; omega)
          rw [← c] at this
          exact ⟨this.1, by omega⟩
        · rw [sl_ne hi _ c]
          by_cases c2 : i = p
          · subst c2; rw [sl_self hi]; intro _ _; exact ⟨x0, by omega⟩
          · rw [sl_ne hi _ c2]; exact I.prev p hp
      · intro a c ha hc na nc
        rw [List.length_set] at ha hc
        by_cases q : i = a
        · subst q
          by_cases q2 : i = c
          · intro _ _ _; exact q2
          · rw [sl_self hi, sl_ne hi _ q2, x1]
            intro _ h3 h4
            exact absurd (I.uniq c _ hc hj (fun z => q2 z.symm) hne h3 hfu h4.symm) nc
        · by_cases q2 : i = c
          · subst q2
            rw [sl_self hi, sl_ne hi _ q, x1]
            intro h3 _ h4
            exact absurd (I.uniq a _ ha hj (fun z => q z.symm) hne h3 hfu h4) na
          · rw [sl_ne hi _ q, sl_ne hi _ q2]
            exact I.uniq a c ha hc (fun z => q z.symm) (fun z => q2 z.symm)
      · intro a ha
        rw [List.length_set] at ha
        by_cases c : i = a
        · subst c; rw [sl_self hi, x0]; intro h; cases h
        · rw [sl_ne hi _ c]; exact I.zero a ha
    have hs := sumD_set l i x hi
    obtain ⟨m, j, r1, r2, r3, r4, r5, r6⟩ := ih (l.set i x) ((i + 1) % l.length) (by rw [List.length_set]; exact h2) (by rw [List.length_set]; exact hN) I1 (by rw [sl_ne hi _ hne2]; rw [x3] at hs; omega) k (by omega)
    refine ⟨m, j, e.trans r1, r2, r3.trans (List.length_set ..), ?_, r5, ?_⟩
    · have := cnt_set l i x hi
      simp only [bn, I.used, x0, if_true] at this
      omega
    · intro key v
      rw [r6]
      constructor
      · rintro ⟨a, a1, a2, a3, a4, a5⟩
        rw [List.length_set] at a1
        by_cases c : i = a
        · subst c
          rw [sl_self hi] at a3 a4 a5
          exact ⟨_, hj, hne, hfu, x1 ▸ a4, x2 ▸ a5⟩
        · rw [sl_ne hi _ c] at a3 a4 a5
          exact ⟨a, a1, fun q => c q.symm, a3, a4, a5⟩
      · rintro ⟨a, a1, a2, a3, a4, a5⟩
        by_cases c : a = (i + 1) % l.length
        · subst c
          exact ⟨i, by rw [List.length_set]; exact hi, hne2, by rw [sl_self hi]; exact x0, by rw [sl_self hi, x1]; exact a4, by rw [sl_self hi, x2]; exact a5⟩
        · have q : i ≠ a := fun q => a2 q.symm
          exact ⟨a, by rw [List.length_set]; exact a1, c, by rw [sl_ne hi _ q]; exact a3, by rw [sl_ne hi _ q]; exact a4, by rw [sl_ne hi _ q]; exact a5⟩
theorem hole_shut {hm : ByteArray → Nat} {l : List Sl} {i : Nat} (h2 : 2 ≤ l.length) (I : InvH hm l i) (hs : (sl l ((i + 1) % l.length)).f0 = false ∨ (sl l ((i + 1) % l.length)).f3 = 0) : Inv hm (l.set i zeroS) ∧ cnt (l.set i zeroS) + 1 = cnt l ∧ ∀ key v, Has (l.set i zeroS) key v ↔ HasX l i key v := by
  have hi := I.hi
  have z0 : zeroS.f0 = false := rfl
  refine ⟨⟨?_, ?_, ?_, ?_⟩, ?_, ?_⟩
  · intro a ha hu
    rw [List.length_set] at ha ⊢
    by_cases c : i = a
    · subst c; rw [sl_self hi, z0] at hu; cases hu
    · rw [sl_ne hi _ c] at hu ⊢; exact I.pos a ha hu
  · intro p hp
    rw [List.length_set] at hp ⊢
    by_cases c : i = (p + 1) % l.length
    · rw [← c, sl_self hi, z0]; intro h; cases h
    · rw [sl_ne hi _ c]
      by_cases c2 : i = p
      · subst c2
        intro h3 h4
        rcases hs with hs | hs
        · rw [hs] at h3; cases h3
        · omega
      · rw [sl_ne hi _ c2]; exact I.prev p hp
  · intro a c ha hc
    rw [List.length_set] at ha hc
    by_cases q : i = a
    · subst q; rw [sl_self hi, z0]; intro h; cases h
    · by_cases q2 : i = c
      · subst q2; rw [sl_self hi, z0]; intro _ h; cases h
      · rw [sl_ne hi _ q, sl_ne hi _ q2]; exact I.uniq a c ha hc (fun z => q z.symm) (fun z => q2 z.symm)
  · intro a ha
    rw [List.length_set] at ha
    by_cases c : i = a
    · subst c; rw [sl_self hi]; intro _; rfl
    · rw [sl_ne hi _ c]; exact I.zero a ha
  · have := cnt_set l i zeroS hi
    simp only [bn, I.used, z0, if_true] at this
    simpa using this
  · intro key v
    constructor
    · rintro ⟨a, a1, a2, a3⟩
      rw [List.length_set] at a1
      by_cases c : i = a
      · subst c; rw [sl_self hi, z0] at a2; cases a2
      · rw [sl_ne hi _ c] at a2 a3; exact ⟨a, a1, fun q => c q.symm, a2, a3⟩
    · rintro ⟨a, a1, a2, a3, a4, a5⟩
      have c : i ≠ a := fun q => a2 q.symm
      exact ⟨a, by rw [List.length_set]; exact a1, by rw [sl_ne hi _ c]; exact a3, by rw [sl_ne hi _ c]; exact a4, by rw [sl_ne hi _ c]; exact a5⟩
end Go.Proofs.Ytmnikjhnomphmaa.La


namespace Go.Proofs.Ytmnikjhnomphmaa.La
open Go.RowKit Go.Proofs.YtmnikjhnomphmaaW.PrintWords Go.Proofs.YtmnikjhnomphmaaW.PrintLast Go.Proofs.YtmnikjhnomphmaaW.PrintMore Go.Proofs.Ytmnikjhnomphmaa.Q
set_option linter.unusedSimpArgs false
set_option linter.unusedVariables false
/-- A table that is well, of 2 to the power of b slots, holds just what f says. -/
structure TF (sd : Int) (b : Nat) (l : List Sl) (us : Int) (f : ByteArray → Option Int) : Prop where
  b0 : 1 ≤ b
  b1 : b ≤ 8
  len : l.length = 2 ^ b
  inv : Inv (homeN sd b) l
  us : us = (cnt l : Int)
  has : ∀ k v, Has l k v ↔ f k = some v
def upd (f : ByteArray → Option Int) (k : ByteArray) (o : Option Int) : ByteArray → Option Int := fun q => if q = k then o else f q
section
variable {sd : Int} {b : Nat} {l : List Sl} {us : Int} {f : ByteArray → Option Int}
theorem TF.sz (h : TF sd b l us f) : 2 ≤ l.length ∧ l.length ≤ 256 := by
  have h1 := Nat.pow_le_pow_right (show 0 < 2 by omega) h.b1
  have h2 := Nat.pow_le_pow_right (show 0 < 2 by omega) h.b0
  rw [h.len]
  simp at h1 h2
  omega
theorem has_fun {hm : ByteArray → Nat} (I : Inv hm l) {k : ByteArray} {v v' : Int} (h : Has l k v) (h' : Has l k v') : v = v' := by
  obtain ⟨i, i1, i2, i3, i4⟩ := h
  obtain ⟨j, j1, j2, j3, j4⟩ := h'
  obtain rfl := I.uniq i j i1 j1 i2 j2 (i3.trans j3.symm)
  exact i4.symm.trans j4
theorem TF.find (h : TF sd b l us f) (key : ByteArray) : (f key = none ∧ findT sd b l key = none) ∨ ∃ i v, f key = some v ∧ findT sd b l key = some i ∧ i < l.length ∧ (sl l i).f0 = true ∧ (sl l i).f1 = key ∧ (sl l i).f2 = v := by
  have hz := h.sz
  have hi := fun i => find_iff (l := l) (by omega) h.inv (key := key) (i := i)
  unfold findT
  cases e : findL l key (homeN sd b key) l.length 0 with
  | none =>
    left
    refine ⟨?_, rfl⟩
    cases e2 : f key with
    | none => rfl
    | some v =>
      obtain ⟨i, i1, i2, i3, i4⟩ := (h.has key v).2 e2
      have := (hi i).2 ⟨i1, i2, i3⟩
      rw [e] at this; cases this
  | some i =>
    right
    obtain ⟨i1, i2, i3⟩ := (hi i).1 e
    exact ⟨i, (sl l i).f2, (h.has key _).1 ⟨i, i1, i2, i3, rfl⟩, rfl, i1, i2, i3, rfl⟩
theorem TF.get (h : TF sd b l us f) (key : ByteArray) : getT sd b l key = match f key with | none => (0, false) | some v => (v, true) := by
  unfold getT
  rcases h.find key with ⟨h1, h2⟩ | ⟨i, v, h1, h2, h3, h4, h5, h6⟩
  · rw [h1, h2]
  · rw [h1, h2]
    show ((sl l i).f2, true) = (v, true)
    rw [h6]
theorem TF.put_bad (h : TF sd b l us f) (k : Nat) {key : ByteArray} (v : Int) (hk : key.size = 0 ∨ key.size > 33) : putT k sd b l us key v = some (l, us, 1) := by
  unfold putT; rw [if_pos hk]
theorem TF.put_old (h : TF sd b l us f) (k : Nat) {key : ByteArray} (v : Int) (hk : 1 ≤ key.size ∧ key.size ≤ 33) {v0 : Int} (hf : f key = some v0) : ∃ l', putT k sd b l us key v = some (l', us, 0) ∧ TF sd b l' us (upd f key (some v)) := by
  rcases h.find key with ⟨h1, h2⟩ | ⟨i, v1, h1, h2, h3, h4, h5, h6⟩
  · rw [hf] at h1; cases h1
  unfold putT
  rw [if_neg (by omega), h2]
  have hz := h.sz
  obtain ⟨x, hx⟩ : ∃ x : Sl, x = ⟨(sl l i).f0, (sl l i).f1, v, (sl l i).f3⟩ := ⟨_, rfl⟩
  refine ⟨l.set i x, by rw [hx]; rfl, ?_⟩
  have x0 : x.f0 = true := by rw [hx]; exact h4
  have x1 : x.f1 = (sl l i).f1 := by rw [hx]
  have x2 : x.f2 = v := by rw [hx]
  have x3 : x.f3 = (sl l i).f3 := by rw [hx]
  clear hx
  have same : ∀ j, (sl (l.set i x) j).f0 = (sl l j).f0 ∧ (sl (l.set i x) j).f1 = (sl l j).f1 ∧ (sl (l.set i x) j).f3 = (sl l j).f3 := by
    intro j
    by_cases e : i = j
    · subst e; rw [sl_self h3]; exact ⟨x0.trans h4.symm, x1, x3⟩
    · rw [sl_ne h3 _ e]; exact ⟨rfl, rfl, rfl⟩
  refine ⟨h.b0, h.b1, (List.length_set ..).trans h.len, ⟨?_, ?_, ?_, ?_⟩, ?_, ?_⟩
  · intro a ha hu
    rw [List.length_set] at ha ⊢
    rw [(same a).1] at hu
    rw [(same a).2.1, (same a).2.2]
    exact h.inv.pos a ha hu
  · intro a ha
    rw [List.length_set] at ha ⊢
    rw [(same _).1, (same _).2.2, (same a).1, (same a).2.2]
    exact h.inv.prev a ha
  · intro a c ha hc
    rw [List.length_set] at ha hc
    rw [(same a).1, (same c).1, (same a).2.1, (same c).2.1]
    exact h.inv.uniq a c ha hc
  · intro a ha hu
    rw [List.length_set] at ha
    have hu2 := hu
    rw [(same a).1] at hu2
    by_cases e : i = a
    · subst e; rw [h4] at hu2; cases hu2
    · rw [sl_ne h3 _ e]; exact h.inv.zero a ha hu2
  · have := cnt_set l i x h3
    simp only [bn, h4, x0, if_true] at this
    rw [h.us]; omega
  · intro q w
    rw [has_set h3 x0]
    unfold upd
    by_cases e : q = key
    · subst e
      rw [if_pos rfl]
      constructor
      · rintro (⟨_, r⟩ | ⟨j, j1, j2, j3, j4, _⟩)
        · rw [← r, x2]
        · exact absurd (h.inv.uniq j i j1 h3 j3 h4 (j4.trans h5.symm)) j2
      · intro r
        exact Or.inl ⟨x1.trans h5, by rw [x2]; exact Option.some.inj r⟩
    · rw [if_neg e, ← h.has q w]
      constructor
      · rintro (⟨r, _⟩ | ⟨j, j1, j2, j3, j4, j5⟩)
        · exact absurd (r.symm.trans (x1.trans h5)) e
        · exact ⟨j, j1, j3, j4, j5⟩
      · rintro ⟨j, j1, j3, j4, j5⟩
        exact Or.inr ⟨j, j1, fun z => by subst z; exact e (j4.symm.trans h5), j3, j4, j5⟩
theorem TF.put_full (h : TF sd b l us f) (k : Nat) {key : ByteArray} (v : Int) (hk : 1 ≤ key.size ∧ key.size ≤ 33) (hf : f key = none) (hu : us = (l.length : Int)) : putT k sd b l us key v = some (l, us, 4) := by
  rcases h.find key with ⟨h1, h2⟩ | ⟨i, v1, h1, h2, h3, h4, h5, h6⟩
  · unfold putT
    rw [if_neg (by omega), h2]
    exact if_pos hu
  · rw [hf] at h1; cases h1
theorem TF.put_new (h : TF sd b l us f) {k : Nat} (hk0 : 300 ≤ k) {key : ByteArray} (v : Int) (hk : 1 ≤ key.size ∧ key.size ≤ 33) (hf : f key = none) (hu : us ≠ (l.length : Int)) : ∃ l', putT k sd b l us key v = some (l', us + 1, 0) ∧ TF sd b l' (us + 1) (upd f key (some v)) := by
  rcases h.find key with ⟨h1, h2⟩ | ⟨i, v1, h1, h2, h3, h4, h5, h6⟩
  case inr => rw [hf] at h1; cases h1
  have hz := h.sz
  have hc := cnt_le l
  have hus := h.us
  obtain ⟨u, u1, u2⟩ := cnt_free l (by omega)
  have hh : homeN sd b key < l.length := by rw [h.len]; exact homeN_lt sd b key h.b0 (by have := h.b1; omega)
  obtain ⟨m, m1, m2⟩ : ∃ m, m < l.length ∧ (homeN sd b key + m) % l.length = u := by
    by_cases c : homeN sd b key ≤ u
    · exact ⟨u - homeN sd b key, by omega, by rw [show homeN sd b key + (u - homeN sd b key) = u by omega, Nat.mod_eq_of_lt u1]⟩
    · exact ⟨u + l.length - homeN sd b key, by omega, by rw [show homeN sd b key + (u + l.length - homeN sd b key) = u + l.length by omega, Nat.add_mod_right, Nat.mod_eq_of_lt u1]⟩
  obtain ⟨l', r1, r2, r3, r4, r5⟩ := putL_ok (homeN sd b) m l (homeN sd b key) u 0 ⟨true, key, v, 0⟩ hz.1 (by omega) hh u1 u2 m2 (by omega) h.inv rfl rfl (by rw [Nat.add_zero, Nat.mod_eq_of_lt hh]) (fun p _ _ z => absurd z (by omega))
    (fun j j1 j2 j3 => by
      have := (h.has key _).1 ⟨j, j1, j2, j3, rfl⟩
      rw [hf] at this; cases this) k (by omega)
  refine ⟨l', ?_, h.b0, h.b1, r3.trans h.len, r2, by rw [r4, hus]; omega, ?_⟩
  · unfold putT
    rw [if_neg (by omega), h2]
    show (if us = (l.length : Int) then _ else _) = _
    rw [if_neg hu, r1]
    show some (l', wrap64 (us + 1), 0) = _
    rw [wr (by omega) (by omega)]
  · intro q w
    rw [r5, h.has]
    unfold upd
    by_cases e : q = key
    · subst e
      rw [if_pos rfl, hf]
      constructor
      · rintro (r | ⟨_, r⟩)
        · cases r
        · exact congrArg some r
      · intro r; exact Or.inr ⟨rfl, Option.some.inj r⟩
    · rw [if_neg e]
      constructor
      · rintro (r | ⟨r, _⟩)
        · exact r
        · exact absurd r.symm e
      · exact Or.inl
theorem TF.del_no (h : TF sd b l us f) (k : Nat) {key : ByteArray} (hf : f key = none) : delT k sd b l us key = some (l, us, false) := by
  rcases h.find key with ⟨h1, h2⟩ | ⟨i, v1, h1, h2, h3, h4, h5, h6⟩
  · unfold delT; rw [h2]
  · rw [hf] at h1; cases h1
theorem sumD_le {hm : ByteArray → Nat} {N : Nat} : ∀ l : List Sl, (∀ i, i < l.length → (sl l i).f3.toNat ≤ N) → sumD l ≤ l.length * N
  | [], _ => by simp [sumD]
  | s :: l, h => by
    have h1 := sumD_le (hm := hm) l (fun i hi => by have := h (i + 1) (by simpa using hi); rwa [sl_cons] at this)
    have h2 := h 0 (by simp)
    rw [sl_zero] at h2
    simp only [sumD, List.length_cons, Nat.add_mul, Nat.one_mul]
    omega
theorem TF.del_yes (h : TF sd b l us f) {k : Nat} (hk0 : 70000 ≤ k) {key : ByteArray} {v0 : Int} (hf : f key = some v0) : ∃ l', delT k sd b l us key = some (l', us - 1, true) ∧ TF sd b l' (us - 1) (upd f key none) := by
  rcases h.find key with ⟨h1, h2⟩ | ⟨i, v1, h1, h2, h3, h4, h5, h6⟩
  · rw [hf] at h1; cases h1
  have hz := h.sz
  have hc := cnt_le l
  have hus := h.us
  have hd : ∀ j, j < l.length → (sl l j).f3.toNat ≤ 256 := fun j hj => by
    by_cases e : (sl l j).f0 = true
    · obtain ⟨d, d1, d2, _⟩ := h.inv.pos j hj e
      omega
    · rw [h.inv.zero j hj (by simpa using e)]; decide
  have hs := sumD_le (hm := homeN sd b) l hd
  have hs2 : l.length * 256 ≤ 256 * 256 := Nat.mul_le_mul_right _ hz.2
  have hi := sumD_at l i h3
  obtain ⟨m, j, r1, r2, r3, r4, r5, r6⟩ := delL_ok (homeN sd b) (sumD l - (sl l i).f3.toNat) l i hz.1 (by omega) (h.inv.hole h3 h4) (by omega) k (by omega)
  obtain ⟨q1, q2, q3⟩ := hole_shut (by omega) r2 (by exact r5)
  refine ⟨m.set j zeroS, ?_, h.b0, h.b1, (List.length_set ..).trans (r3.trans h.len), q1, by omega, ?_⟩
  · unfold delT
    rw [h2]
    show (delL k l i).map _ = _
    rw [r1]
    show some (m.set j zeroS, wrap64 (us - 1), true) = _
    rw [wr (by omega) (by omega)]
  · intro q w
    rw [q3, r6]
    unfold upd
    by_cases e : q = key
    · subst e
      rw [if_pos rfl]
      constructor
      · rintro ⟨a, a1, a2, a3, a4, _⟩
        exact absurd (h.inv.uniq a i a1 h3 a3 h4 (a4.trans h5.symm)) a2
      · intro r; cases r
    · rw [if_neg e, ← h.has q w]
      constructor
      · rintro ⟨a, a1, a2, a3, a4, a5⟩; exact ⟨a, a1, a3, a4, a5⟩
      · rintro ⟨a, a1, a3, a4, a5⟩
        exact ⟨a, a1, fun z => by subst z; exact e (a4.symm.trans h5), a3, a4, a5⟩
end
theorem TF.new (sd : Int) (b : Nat) (h0 : 1 ≤ b) (h1 : b ≤ 8) : TF sd b (List.replicate (2 ^ b) zeroS) 0 (fun _ => none) := by
  have hs : ∀ i, sl (List.replicate (2 ^ b) zeroS) i = zeroS := by
    intro i
    unfold sl rd_T84
    rw [Int.toNat_natCast, List.getD_eq_getElem?_getD, List.getElem?_replicate]
    split <;> rfl
  have z0 : zeroS.f0 = false := rfl
  have hc : ∀ n, cnt (List.replicate n zeroS) = 0 := by
    intro n
    induction n with
    | zero => rfl
    | succ n ih => rw [List.replicate_succ]; simp only [cnt, bn, z0]; simpa using ih
  refine ⟨h0, h1, List.length_replicate, ⟨?_, ?_, ?_, ?_⟩, by rw [hc]; rfl, ?_⟩
  · intro i _ hu; rw [hs, z0] at hu; cases hu
  · intro i _ hu; rw [hs, z0] at hu; cases hu
  · intro i j _ _ hu; rw [hs, z0] at hu; cases hu
  · intro i _ _; exact hs i
  · intro k v
    constructor
    · rintro ⟨i, _, hu, _⟩; rw [hs, z0] at hu; cases hu
    · intro h; cases h
end Go.Proofs.Ytmnikjhnomphmaa.La


namespace Go.Proofs.Ytmnikjhnomphmaa.La
open Go.RowKit Go.Proofs.YtmnikjhnomphmaaW.PrintWords Go.Proofs.YtmnikjhnomphmaaW.PrintLast Go.Proofs.YtmnikjhnomphmaaW.PrintMore Go.Proofs.Ytmnikjhnomphmaa.Q
set_option linter.unusedSimpArgs false
set_option linter.unusedVariables false
abbrev KF := ByteArray → Option Int
def TT (g gs : Nat) (sd : Int) (b : Nat) (us : Int) (f : KF) (W : World) : Prop := ∃ l, Tab g gs sd (b : Int) l us W ∧ TF sd b l us f
section
variable {g gs : Nat} {sd : Int} {b : Nat} {us : Int} {f : KF} {W W' : World}
theorem TT.below (h : TT g gs sd b us f W) (hb : Below W.heap.size W W') : TT g gs sd b us f W' := by obtain ⟨l, h1, h2⟩ := h; exact ⟨l, h1.below hb, h2⟩
theorem TT.drew (h : TT g gs sd b us f W) : TT g gs sd b us f W.drew := by obtain ⟨l, h1, h2⟩ := h; exact ⟨l, h1.drew, h2⟩
theorem TT.drewN (h : TT g gs sd b us f W) (n : Nat) : TT g gs sd b us f (W.drewN n) := by obtain ⟨l, h1, h2⟩ := h; exact ⟨l, h1.drewN n, h2⟩
theorem TT.alloc (h : TT g gs sd b us f W) (o : Obj) : TT g gs sd b us f (W.alloc o) := by obtain ⟨l, h1, h2⟩ := h; exact ⟨l, h1.alloc o, h2⟩
theorem TT.fr {S : Nat → Prop} (h : TT g gs sd b us f W) (hb : Fr S W W') (h1 : ¬ S g) (h2 : ¬ S gs) : TT g gs sd b us f W' := by
  obtain ⟨l, k1, k2⟩ := h
  exact ⟨l, ⟨hb.blk k1.hd h1, hb.blk k1.sl h2, k1.ne⟩, k2⟩
theorem TT.rng (h : TT g gs sd b us f W) : 0 ≤ us ∧ us ≤ 2 ^ b := by
  obtain ⟨l, h1, h2⟩ := h
  have := cnt_le l
  have e := h2.len
  rw [h2.us]
  refine ⟨by omega, ?_⟩
  have : ((cnt l : Nat) : Int) ≤ ((2 ^ b : Nat) : Int) := by omega
  simpa using this
end
/-- What Put does to a table as a function. -/
def putF (b : Nat) (f : KF) (us : Int) (key : ByteArray) (v : Int) : Int × Int × KF :=
  if key.size = 0 ∨ key.size > 33 then (1, us, f) else match f key with
  | some _ => (0, us, upd f key (some v))
  | none => if us = 2 ^ b then (4, us, f) else (0, us + 1, upd f key (some v))
def delF (f : KF) (us : Int) (key : ByteArray) : Bool × Int × KF := match f key with
  | none => (false, us, f)
  | some _ => (true, us - 1, upd f key none)
def getF (f : KF) (key : ByteArray) : Int × Bool := match f key with
  | none => (0, false)
  | some v => (v, true)
theorem tt_new (sd : Int) (b : Nat) (w : World) (h0 : 1 ≤ b) (h1 : b ≤ 8) : Calls Try.prog 29 #[.int .u64 sd, .int .i64 (b : Int)] w fun e w' => e = .returned (.tuple #[.pointer (some ⟨w.heap.size + 1, 0, none⟩), .int .i64 0]) ∧ TT (w.heap.size + 1) w.heap.size sd b 0 (fun _ => none) w' ∧ Below w.heap.size w w' := by
  refine (robin_New.calls sd b w h0 h1).mono ?_
  rintro e w' ⟨rfl, ht, hb⟩
  exact ⟨rfl, ⟨_, ht, TF.new sd b h0 h1⟩, hb⟩
theorem tt_put {g gs : Nat} {sd : Int} {b : Nat} {us : Int} {f : KF} {w : World} (h : TT g gs sd b us f w) (key : ByteArray) (v : Int) (hk : key.size ≤ 4611686018427387904) {e0 us' : Int} {f' : KF} (hp : putF b f us key v = (e0, us', f')) :
    Calls Try.prog 39 #[.pointer (some ⟨g, 0, none⟩), .string key, .int .i64 v] w fun e w' => e = .returned (.int .i64 e0) ∧ TT g gs sd b us' f' w' ∧ Fr (fun q => q = g ∨ q = gs) w w' := by
  obtain ⟨l, ht, hf⟩ := h
  have key2 : ∃ l', putT 300 sd b l us key v = some (l', us', e0) ∧ TF sd b l' us' f' := by
    unfold putF at hp
    by_cases hb : key.size = 0 ∨ key.size > 33
    · rw [if_pos hb] at hp; cases hp
      exact ⟨l, hf.put_bad 300 v hb, hf⟩
    · rw [if_neg hb] at hp
      cases e : f key with
      | some v0 =>
        rw [e] at hp; cases hp
        exact hf.put_old 300 v (by omega) e
      | none =>
        rw [e] at hp
        have hl : (l.length : Int) = 2 ^ b := by rw [hf.len]; simp
        by_cases hu : us = 2 ^ b
        · simp only [if_pos hu] at hp; cases hp
          exact ⟨l, hf.put_full 300 v (by omega) e (by omega), hf⟩
        · simp only [if_neg hu] at hp; cases hp
          exact hf.put_new (Nat.le_refl _) v (by omega) e (by omega)
  obtain ⟨l', h1, h2⟩ := key2
  refine (robin_Table_Put.calls 300 g gs sd us b l key v l' us' e0 w ht hf.len hf.b0 hf.b1 hk h1).mono ?_
  rintro e w' ⟨rfl, k1, _, k3⟩
  exact ⟨rfl, ⟨l', k1, h2⟩, k3⟩
theorem tt_del {g gs : Nat} {sd : Int} {b : Nat} {us : Int} {f : KF} {w : World} (h : TT g gs sd b us f w) (key : ByteArray) (hk : key.size ≤ 4611686018427387904) {e0 : Bool} {us' : Int} {f' : KF} (hp : delF f us key = (e0, us', f')) :
    Calls Try.prog 38 #[.pointer (some ⟨g, 0, none⟩), .string key] w fun e w' => e = .returned (.bool e0) ∧ TT g gs sd b us' f' w' ∧ Fr (fun q => q = g ∨ q = gs) w w' := by
  obtain ⟨l, ht, hf⟩ := h
  have key2 : ∃ l', delT 70000 sd b l us key = some (l', us', e0) ∧ TF sd b l' us' f' := by
    unfold delF at hp
    cases e : f key with
    | none =>
      rw [e] at hp; cases hp
      exact ⟨l, hf.del_no 70000 e, hf⟩
    | some v0 =>
      rw [e] at hp; cases hp
      exact hf.del_yes (Nat.le_refl _) e
  obtain ⟨l', h1, h2⟩ := key2
  refine (robin_Table_Delete.calls 70000 g gs sd us b l key l' us' e0 w ht hf.len hf.b0 hf.b1 hk h1).mono ?_
  rintro e w' ⟨rfl, k1, _, k3⟩
  exact ⟨rfl, ⟨l', k1, h2⟩, k3⟩
theorem tt_get {g gs : Nat} {sd : Int} {b : Nat} {us : Int} {f : KF} {w : World} (h : TT g gs sd b us f w) (key : ByteArray) (hk : key.size ≤ 4611686018427387904) {v : Int} {is : Bool} (hp : getF f key = (v, is)) :
    Calls Try.prog 40 #[.pointer (some ⟨g, 0, none⟩), .string key] w fun e w' => e = .returned (.tuple #[.int .i64 v, .bool is]) ∧ TT g gs sd b us f w' ∧ Below w.heap.size w w' := by
  obtain ⟨l, ht, hf⟩ := h
  have e : getT sd b l key = (v, is) := (hf.get key).trans hp
  have G := robin_Table_Get.calls g gs sd us b l key w ht hf.len hf.b0 hf.b1 hk
  rw [e] at G
  refine G.mono ?_
  rintro e w' ⟨rfl, hb⟩
  exact ⟨rfl, ⟨l, ht.below hb, hf⟩, hb⟩
theorem tt_len {g gs : Nat} {sd : Int} {b : Nat} {us : Int} {f : KF} {w : World} (h : TT g gs sd b us f w) :
    Calls Try.prog 31 #[.pointer (some ⟨g, 0, none⟩)] w fun e w' => e = .returned (.int .i64 us) ∧ w' = w := by
  obtain ⟨l, ht, hf⟩ := h
  exact robin_Table_Len.calls g gs sd b us l w ht
theorem ba_bne {a b : ByteArray} (h : a ≠ b) : (a == b) = false := by
  cases hh : (a == b) with
  | false => rfl
  | true =>
    exfalso; apply h
    have : (a.data == b.data) = true := hh
    cases a; cases b
    simp at this
    rw [this]
theorem ba_bne2 {a b : ByteArray} (h : a ≠ b) : (a != b) = true := by unfold bne; rw [ba_bne h]; rfl
/-- Only keys that may be are in it. -/
def KeyOk (f : KF) : Prop := ∀ q v, f q = some v → 1 ≤ q.size ∧ q.size ≤ 33
theorem KeyOk.none : KeyOk (fun _ => none) := fun q v h => nomatch h
theorem KeyOk.put {f f' : KF} {b : Nat} {us us' e : Int} {key : ByteArray} {v : Int} (h : KeyOk f) (hp : putF b f us key v = (e, us', f')) : KeyOk f' := by
  unfold putF at hp
  by_cases hb : key.size = 0 ∨ key.size > 33
  · rw [if_pos hb] at hp; cases hp; exact h
  · rw [if_neg hb] at hp
    have hu : KeyOk (upd f key (some v)) := fun q w hq => by
      unfold upd at hq
      by_cases e : q = key
      · subst e; omega
      · rw [if_neg e] at hq; exact h q w hq
    cases e2 : f key with
    | some _ => rw [e2] at hp; cases hp; exact hu
    | none =>
      rw [e2] at hp
      by_cases hf : us = 2 ^ b
      · simp only [if_pos hf] at hp; cases hp; exact h
      · simp only [if_neg hf] at hp; cases hp; exact hu
theorem KeyOk.del {f f' : KF} {us us' : Int} {e : Bool} {key : ByteArray} (h : KeyOk f) (hp : delF f us key = (e, us', f')) : KeyOk f' := by
  unfold delF at hp
  cases e2 : f key with
  | none => rw [e2] at hp; cases hp; exact h
  | some _ =>
    rw [e2] at hp; cases hp
    intro q w hq
    unfold upd at hq
    by_cases e : q = key
    · rw [if_pos e] at hq; cases hq
    · rw [if_neg e] at hq; exact h q w hq
/-- A Put that fails changes nothing; the key is not there. -/
theorem putF_no {f f' : KF} {b : Nat} {us us' e : Int} {key : ByteArray} {v : Int} (h : KeyOk f) (hp : putF b f us key v = (e, us', f')) (he : e ≠ 0) : f' = f ∧ us' = us ∧ f key = none := by
  unfold putF at hp
  by_cases hb : key.size = 0 ∨ key.size > 33
  · rw [if_pos hb] at hp; cases hp
    refine ⟨rfl, rfl, ?_⟩
    cases e2 : f key with
    | none => rfl
    | some w => have := h key w e2; omega
  · rw [if_neg hb] at hp
    cases e2 : f key with
    | some _ => rw [e2] at hp; cases hp; exact absurd rfl he
    | none =>
      rw [e2] at hp
      by_cases hf : us = 2 ^ b
      · simp only [if_pos hf] at hp; cases hp; exact ⟨rfl, rfl, rfl⟩
      · simp only [if_neg hf] at hp; cases hp; exact absurd rfl he
theorem putF_yes {f f' : KF} {b : Nat} {us us' : Int} {key : ByteArray} {v : Int} (hp : putF b f us key v = (0, us', f')) : f' = upd f key (some v) ∧ us' = us + (if (getF f key).2 = true then 0 else 1) := by
  unfold putF at hp
  unfold getF
  by_cases hb : key.size = 0 ∨ key.size > 33
  · rw [if_pos hb] at hp; cases hp
  · rw [if_neg hb] at hp
    cases e2 : f key with
    | some _ => rw [e2] at hp; cases hp; exact ⟨rfl, by simp⟩
    | none =>
      rw [e2] at hp
      by_cases hf : us = 2 ^ b
      · simp only [if_pos hf] at hp; cases hp
      · simp only [if_neg hf] at hp; cases hp; exact ⟨rfl, by simp⟩
theorem getF_self (f : KF) (key : ByteArray) (v : Int) : getF (upd f key (some v)) key = (v, true) := by unfold getF upd; simp
theorem getF_gone (f : KF) (key : ByteArray) : getF (upd f key none) key = (0, false) := by unfold getF upd; simp
theorem getF_ne (f : KF) {key q : ByteArray} (o : Option Int) (h : q ≠ key) : getF (upd f key o) q = getF f q := by unfold getF upd; rw [if_neg h]
end Go.Proofs.Ytmnikjhnomphmaa.La


namespace Go.Proofs.Ytmnikjhnomphmaa.La
open Go.RowKit Go.Proofs.YtmnikjhnomphmaaW.PrintWords Go.Proofs.YtmnikjhnomphmaaW.PrintLast Go.Proofs.YtmnikjhnomphmaaW.PrintMore Go.Proofs.Ytmnikjhnomphmaa.Q
set_option linter.unusedSimpArgs false
set_option linter.unusedVariables false
/-- Texts, rising. -/
def tl (a b : ByteArray) : Prop := a.data.toList < b.data.toList
instance (a b : ByteArray) : Decidable (tl a b) := by unfold tl; infer_instance
theorem tl_irr (a : ByteArray) (h : tl a a) : False := List.lt_irrefl _ h
theorem tl_trans {a b c : ByteArray} (h : tl a b) (k : tl b c) : tl a c := List.lt_trans h k
theorem ba_ext {a b : ByteArray} (h : a.data.toList = b.data.toList) : a = b := by
  cases a; cases b; simp at h; rw [h]
theorem tl_tri {a b : ByteArray} (h : ¬ tl a b) (k : a ≠ b) : tl b a := by
  apply Classical.byContradiction
  intro h2
  exact k (ba_ext (List.le_antisymm (List.not_lt.1 h2) (List.not_lt.1 h)))
theorem less_iff (a b : ByteArray) : Op.bytesLess a.toList b.toList = decide (tl a b) := by
  rw [bytesLess_eq, ByteArray.toList_eq, ByteArray.toList_eq]; rfl
def Srt (L : List Pr) : Prop := L.Pairwise (fun p q => tl p.f0 q.f0)
/-- A map's list holds just what f says. -/
structure MS (L : List Pr) (us : Int) (f : KF) : Prop where
  srt : Srt L
  has : ∀ k v, f k = some v ↔ (⟨k, v⟩ : Pr) ∈ L
  len : us = (L.length : Int)
theorem MS.nil : MS [] 0 (fun _ => none) := ⟨List.Pairwise.nil, fun k v => by simp, rfl⟩
theorem rdP_at {L : List Pr} {i : Nat} (h : i < L.length) : rd_T68 L (i : Int) = L[i] := by
  unfold rd_T68
  rw [Int.toNat_natCast, List.getD_eq_getElem?_getD, List.getElem?_eq_getElem h]; rfl
theorem place_ex : ∀ (L : List Pr) (key : ByteArray), ∃ i is, PlaceP L key i is
  | [], key => ⟨0, false, Nat.le_refl _, fun j h => absurd h (Nat.not_lt_zero _), fun h => absurd h (Nat.lt_irrefl _), ⟨fun h => Bool.noConfusion h, fun h => absurd h.1 (Nat.lt_irrefl _)⟩⟩
  | p :: L, key => by
    by_cases h : tl p.f0 key
    · obtain ⟨i, is, h1, h2, h3, h4⟩ := place_ex L key
      have sh : ∀ j : Nat, rd_T68 (p :: L) ((j + 1 : Nat) : Int) = rd_T68 L (j : Int) := fun j => by
        unfold rd_T68
        rw [Int.toNat_natCast, Int.toNat_natCast]; rfl
      refine ⟨i + 1, is, by simpa using h1, fun j hj => ?_, fun hl => ?_, ?_⟩
      · cases j with
        | zero => rw [less_iff]; exact decide_eq_true h
        | succ j => rw [sh]; exact h2 j (by omega)
      · rw [sh]; exact h3 (by simpa using hl)
      · rw [sh, h4]; simp
    · refine ⟨0, decide (p.f0 = key), Nat.zero_le _, fun j h => absurd h (Nat.not_lt_zero _), fun _ => ?_, ?_⟩
      · rw [less_iff]; exact decide_eq_false h
      · rw [decide_eq_true_iff]; exact ⟨fun e => ⟨by simp, e⟩, fun e => e.2⟩
theorem split_no {L : List Pr} {key : ByteArray} {i : Nat} (h : Srt L) (hp : PlaceP L key i false) : (∀ p ∈ L.take i, tl p.f0 key) ∧ (∀ p ∈ L.drop i, tl key p.f0) := by
  constructor
  · intro p hm
    obtain ⟨j, hj, e⟩ := List.mem_iff_getElem.1 hm
    rw [List.length_take] at hj
    rw [List.getElem_take] at e
    have := hp.lo j (by omega)
    rw [less_iff, rdP_at (by omega), e] at this
    exact of_decide_eq_true this
  · intro p hm
    have hi : i < L.length := by
      apply Classical.byContradiction; intro h2
      rw [List.drop_of_length_le (by omega)] at hm; cases hm
    have h0 : tl key L[i].f0 := by
      refine tl_tri ?_ ?_
      · have := hp.hi hi
        rw [less_iff, rdP_at hi] at this
        exact of_decide_eq_false this
      · intro e
        have := hp.iff.2 ⟨hi, by rw [rdP_at hi]; exact e⟩
        cases this
    obtain ⟨j, hj, e⟩ := List.mem_iff_getElem.1 hm
    rw [List.getElem_drop] at e
    rw [List.length_drop] at hj
    cases j with
    | zero => rw [← e]; exact h0
    | succ j =>
      have := List.pairwise_iff_getElem.1 h i (i + (j + 1)) hi (by omega) (by omega)
      rw [e] at this
      exact tl_trans h0 this
theorem split_yes {L : List Pr} {key : ByteArray} {i : Nat} (h : Srt L) (hp : PlaceP L key i true) : ∃ v, rd_T68 L (i : Int) = ⟨key, v⟩ ∧ L = L.take i ++ (⟨key, v⟩ : Pr) :: L.drop (i + 1) ∧ (∀ y, L.set i y = L.take i ++ y :: L.drop (i + 1)) ∧ (∀ p ∈ L.take i, tl p.f0 key) ∧ (∀ p ∈ L.drop (i + 1), tl key p.f0) := by
  obtain ⟨hi, hk⟩ := hp.iff.1 rfl
  rw [rdP_at hi] at hk
  have hx : L[i] = ⟨key, L[i].f1⟩ := by
    rcases e : L[i] with ⟨a, b⟩
    rw [e] at hk
    subst hk; rfl
  have hsp : ∀ y : Pr, L.set i y = L.take i ++ y :: L.drop (i + 1) := fun y => List.set_eq_take_append_cons_drop ▸ by rw [if_pos hi]
  have hL : L = L.take i ++ L[i] :: L.drop (i + 1) := by
    have := hsp L[i]
    rwa [List.set_getElem_self] at this
  refine ⟨L[i].f1, by rw [rdP_at hi]; exact hx, by rw [← hx]; exact hL, hsp, ?_, ?_⟩
  · intro p hm
    obtain ⟨j, hj, e⟩ := List.mem_iff_getElem.1 hm
    rw [List.length_take] at hj
    rw [List.getElem_take] at e
    have := hp.lo j (by omega)
    rw [less_iff, rdP_at (by omega), e] at this
    exact of_decide_eq_true this
  · intro p hm
    obtain ⟨j, hj, e⟩ := List.mem_iff_getElem.1 hm
    rw [List.getElem_drop] at e
    rw [List.length_drop] at hj
    have := List.pairwise_iff_getElem.1 h i (i + 1 + j) hi (by omega) (by omega)
    rw [e, hk] at this
    exact this
theorem tl_ne {a b : ByteArray} (h : tl a b) : a ≠ b := fun e => by subst e; exact tl_irr _ h
variable {L : List Pr} {us : Int} {f : KF} {key : ByteArray} {i : Nat}
theorem MS.no (h : MS L us f) (hp : PlaceP L key i false) : f key = none := by
  cases e : f key with
  | none => rfl
  | some v =>
    have hm := (h.has key v).1 e
    obtain ⟨s1, s2⟩ := split_no h.srt hp
    rw [← List.take_append_drop i L, List.mem_append] at hm
    rcases hm with hm | hm
    · exact absurd rfl (tl_ne (s1 _ hm))
    · exact absurd rfl (tl_ne (s2 _ hm))
theorem MS.yes (h : MS L us f) (hp : PlaceP L key i true) : f key = some (rd_T68 L (i : Int)).f1 := by
  obtain ⟨v, h1, h2, _⟩ := split_yes h.srt hp
  rw [h1]
  refine (h.has key v).2 ?_
  rw [h2]; simp
theorem MS.get (h : MS L us f) {is : Bool} (hp : PlaceP L key i is) : getF f key = ((if is = true then (rd_T68 L (i : Int)).f1 else 0), is) := by
  unfold getF
  cases is with
  | false => rw [h.no hp]; rfl
  | true => rw [h.yes hp]; rfl
theorem srt_mid {A B : List Pr} {x : Pr} (hA : Srt A) (hB : Srt B) (h1 : ∀ p ∈ A, tl p.f0 x.f0) (h2 : ∀ p ∈ B, tl x.f0 p.f0) : Srt (A ++ x :: B) := by
  refine List.pairwise_append.2 ⟨hA, List.pairwise_cons.2 ⟨h2, hB⟩, fun a ha b hb => ?_⟩
  rcases List.mem_cons.1 hb with rfl | hb
  · exact h1 a ha
  · exact tl_trans (h1 a ha) (h2 b hb)
theorem MS.put_new (h : MS L us f) (hp : PlaceP L key i false) (val : Int) : MS (L.take i ++ [⟨key, val⟩] ++ L.drop i) (us + 1) (upd f key (some val)) := by
  obtain ⟨s1, s2⟩ := split_no h.srt hp
  have e : L.take i ++ [(⟨key, val⟩ : Pr)] ++ L.drop i = L.take i ++ (⟨key, val⟩ : Pr) :: L.drop i := by simp
  rw [e]
  refine ⟨srt_mid (h.srt.sublist (List.take_sublist _ _)) (h.srt.sublist (List.drop_sublist _ _)) s1 s2, fun q w => ?_, ?_⟩
  · have hm : ∀ p : Pr, p ∈ L.take i ++ (⟨key, val⟩ : Pr) :: L.drop i ↔ p = ⟨key, val⟩ ∨ p ∈ L := fun p => by
      conv => rhs; rw [← List.take_append_drop i L]
      simp only [List.mem_append, List.mem_cons]
      exact ⟨fun h => h.elim (fun x => Or.inr (Or.inl x)) (fun x => x.elim Or.inl (fun y => Or.inr (Or.inr y))), fun h => h.elim (fun x => Or.inr (Or.inl x)) (fun x => x.elim Or.inl (fun y => Or.inr (Or.inr y)))⟩
    rw [hm]
    unfold upd
    by_cases e : q = key
    · subst e
      rw [if_pos rfl]
      constructor
      · intro r; exact Or.inl (by rw [Option.some.inj r])
      · rintro (r | r)
        · have r2 := congrArg (fun z : Pr => z.f1) r
          exact congrArg some (show val = w from r2.symm)
        · have := (h.has q w).2 r
          rw [h.no hp] at this; cases this
    · rw [if_neg e, h.has]
      constructor
      · exact Or.inr
      · rintro (r | r)
        · exact absurd (congrArg (fun z : Pr => z.f0) r) e
        · exact r
  · rw [h.len]
    have := hp.le
    simp only [List.length_append, List.length_take, List.length_cons, List.length_drop]
    omega
theorem MS.put_old (h : MS L us f) (hp : PlaceP L key i true) (val : Int) : MS (L.set i ⟨(rd_T68 L (i : Int)).f0, val⟩) us (upd f key (some val)) := by
  obtain ⟨v, h1, h2, h3, s1, s2⟩ := split_yes h.srt hp
  rw [h1, h3]
  refine ⟨srt_mid (h.srt.sublist (List.take_sublist _ _)) (h.srt.sublist (List.drop_sublist _ _)) s1 s2, fun q w => ?_, ?_⟩
  · simp only [List.mem_append, List.mem_cons]
    unfold upd
    have hh := h.has q w
    rw [h2] at hh
    simp only [List.mem_append, List.mem_cons] at hh
    by_cases e : q = key
    · subst e
      rw [if_pos rfl]
      constructor
      · intro r; exact Or.inr (Or.inl (by rw [Option.some.inj r]))
      · rintro (r | r | r)
        · exact absurd rfl (tl_ne (s1 _ r))
        · have r2 := congrArg (fun z : Pr => z.f1) r
          exact congrArg some (show val = w from r2.symm)
        · exact absurd rfl (tl_ne (s2 _ r))
    · rw [if_neg e, hh]
      constructor
      · rintro (r | r | r)
        · exact Or.inl r
        · exact absurd (congrArg (fun z : Pr => z.f0) r) e
        · exact Or.inr (Or.inr r)
      · rintro (r | r | r)
        · exact Or.inl r
        · exact absurd (congrArg (fun z : Pr => z.f0) r) e
        · exact Or.inr (Or.inr r)
  · rw [h.len, ← h3, List.length_set]
theorem MS.del (h : MS L us f) (hp : PlaceP L key i true) : MS (L.take i ++ L.drop (i + 1)) (us - 1) (upd f key none) := by
  obtain ⟨v, h1, h2, h3, s1, s2⟩ := split_yes h.srt hp
  have hi := (hp.iff.1 rfl).1
  refine ⟨?_, fun q w => ?_, ?_⟩
  · refine h.srt.sublist ?_
    conv => rhs; rw [h2]
    exact List.Sublist.append_left (List.sublist_cons_self _ _) _
  · simp only [List.mem_append]
    unfold upd
    have hh := h.has q w
    rw [h2] at hh
    simp only [List.mem_append, List.mem_cons] at hh
    by_cases e : q = key
    · subst e
      rw [if_pos rfl]
      constructor
      · intro r; cases r
      · rintro (r | r)
        · exact absurd rfl (tl_ne (s1 _ r))
        · exact absurd rfl (tl_ne (s2 _ r))
    · rw [if_neg e, hh]
      constructor
      · rintro (r | r | r)
        · exact Or.inl r
        · exact absurd (congrArg (fun z : Pr => z.f0) r) e
        · exact Or.inr r
      · rintro (r | r)
        · exact Or.inl r
        · exact Or.inr (Or.inr r)
  · rw [h.len]
    simp only [List.length_append, List.length_take, List.length_drop]
    omega
end Go.Proofs.Ytmnikjhnomphmaa.La


namespace Go.Proofs.Ytmnikjhnomphmaa.La
open Go.RowKit Go.Proofs.YtmnikjhnomphmaaW.PrintWords Go.Proofs.YtmnikjhnomphmaaW.PrintLast Go.Proofs.YtmnikjhnomphmaaW.PrintMore Go.Proofs.Ytmnikjhnomphmaa.Q
set_option linter.unusedSimpArgs false
set_option linter.unusedVariables false
def cat (f1 f2 : KF) : KF := fun k => match f1 k with
  | some v => some v
  | none => f2 k
def Apart (f1 f2 : KF) : Prop := ∀ k, f1 k = none ∨ f2 k = none
/-- How many are in each, and where: what holds of both tables between two steps of a Move. -/
structure GS (b : Nat) (u1 : Int) (f1 : KF) (u2 : Int) (f2 : KF) : Prop where
  ap : Apart f1 f2
  k1 : KeyOk f1
  k2 : KeyOk f2
  sum : u1 + u2 ≤ 2 ^ b
variable {b : Nat} {u1 u2 v : Int} {f1 f2 : KF} {key : ByteArray}
theorem cat_left (h : f1 key = some v) : cat f1 f2 key = some v := by unfold cat; rw [h]
theorem cat_right (h : f1 key = none) : cat f1 f2 key = f2 key := by unfold cat; rw [h]
theorem Apart.upd1 (h : Apart f1 f2) (hk : f2 key = none) (o : Option Int) : Apart (upd f1 key o) f2 := fun q => by
  unfold upd
  by_cases e : q = key
  · subst e; exact Or.inr hk
  · rw [if_neg e]; exact h q
theorem Apart.none2 (h : Apart f1 f2) : Apart f1 (upd f2 key none) := fun q => by
  unfold upd
  by_cases e : q = key
  · rw [if_pos e]; exact Or.inr rfl
  · rw [if_neg e]; exact h q
theorem Apart.none1 (h : Apart f1 f2) : Apart (upd f1 key none) f2 := fun q => by
  unfold upd
  by_cases e : q = key
  · rw [if_pos e]; exact Or.inl rfl
  · rw [if_neg e]; exact h q
theorem upd_self_none (h : f2 key = none) : upd f2 key none = f2 := by
  funext q
  unfold upd
  by_cases e : q = key
  · subst e; rw [if_pos rfl, h]
  · rw [if_neg e]
theorem cat_upd1 (o : Int) : cat (upd f1 key (some o)) (upd f2 key none) = upd (cat f1 f2) key (some o) := by
  funext q
  unfold cat upd
  by_cases e : q = key
  · rw [if_pos e, if_pos e, if_pos e]
  · rw [if_neg e, if_neg e, if_neg e]
theorem cat_del1 (h : Apart f1 f2) (hk : f1 key = some v) : cat (upd f1 key none) f2 = upd (cat f1 f2) key none := by
  funext q
  unfold cat upd
  by_cases e : q = key
  · subst e
    rw [if_pos rfl, if_pos rfl]
    exact (h q).resolve_left (by rw [hk]; simp)
  · rw [if_neg e, if_neg e]
theorem cat_del2 (hk : f1 key = none) : cat f1 (upd f2 key none) = upd (cat f1 f2) key none := by
  funext q
  unfold cat upd
  by_cases e : q = key
  · subst e
    rw [if_pos rfl, if_pos rfl, hk]
  · rw [if_neg e, if_neg e]
theorem cat_move (h : Apart f1 f2) (hk : f2 key = some v) : cat (upd f1 key (some v)) (upd f2 key none) = cat f1 f2 := by
  rw [cat_upd1]
  have h1 : f1 key = none := (h key).resolve_right (by rw [hk]; simp)
  funext q
  unfold upd
  by_cases e : q = key
  · subst e; rw [if_pos rfl, cat_right h1, hk]
  · rw [if_neg e]
theorem cat_nil (f : KF) : cat f (fun _ => none) = f := by
  funext q; unfold cat; cases f q <;> rfl
theorem nil_cat (f : KF) : cat (fun _ => none) f = f := by
  funext q; unfold cat; rfl
theorem getF_left {n : Int} (h : getF f1 key = (n, true)) : getF (cat f1 f2) key = (n, true) := by
  unfold getF at h ⊢
  cases e : f1 key with
  | none => rw [e] at h; cases h
  | some w => rw [e] at h; rw [cat_left e]; exact h
theorem getF_right {n : Int} (h : getF f1 key = (n, false)) : getF (cat f1 f2) key = getF f2 key := by
  unfold getF at h ⊢
  cases e : f1 key with
  | none => rw [cat_right e]
  | some w => rw [e] at h; cases h
theorem delF_none (h : f2 key = none) : delF f2 u2 key = (false, u2, f2) := by unfold delF; rw [h]
theorem delF_some (h : f2 key = some v) : delF f2 u2 key = (true, u2 - 1, upd f2 key none) := by unfold delF; rw [h]
theorem GS.del1 (S : GS b u1 f1 u2 f2) (e : f1 key = some v) : GS b (u1 - 1) (upd f1 key none) u2 f2 := by
  refine ⟨S.ap.none1, fun q w hq => ?_, S.k2, by have := S.sum; omega⟩
  unfold upd at hq
  by_cases c : q = key
  · rw [if_pos c] at hq; cases hq
  · rw [if_neg c] at hq; exact S.k1 q w hq
theorem GS.del2 (S : GS b u1 f1 u2 f2) : GS b u1 f1 (u2 - 1) (upd f2 key none) := by
  refine ⟨S.ap.none2, S.k1, fun q w hq => ?_, by have := S.sum; omega⟩
  unfold upd at hq
  by_cases c : q = key
  · rw [if_pos c] at hq; cases hq
  · rw [if_neg c] at hq; exact S.k2 q w hq
theorem KeyOk.upd {f : KF} (h : KeyOk f) (hk : 1 ≤ key.size ∧ key.size ≤ 33) (v : Int) : KeyOk (upd f key (some v)) := fun q w hq => by
  unfold La.upd at hq
  by_cases c : q = key
  · rw [c]; exact hk
  · rw [if_neg c] at hq; exact h q w hq
theorem putF_new (hk : 1 ≤ key.size ∧ key.size ≤ 33) (h : f1 key = none) (hu : u1 ≠ 2 ^ b) : putF b f1 u1 key v = (0, u1 + 1, upd f1 key (some v)) := by
  unfold putF
  rw [if_neg (by omega), h]
  simp only [if_neg hu]
theorem putF_old {w : Int} (hk : 1 ≤ key.size ∧ key.size ≤ 33) (h : f1 key = some w) : putF b f1 u1 key v = (0, u1, upd f1 key (some v)) := by
  unfold putF
  rw [if_neg (by omega), h]
theorem GS.move (S : GS b u1 f1 u2 f2) (h : f2 key = some v) (n2 : 1 ≤ u2) : putF b f1 u1 key v = (0, u1 + 1, upd f1 key (some v)) ∧ GS b (u1 + 1) (upd f1 key (some v)) (u2 - 1) (upd f2 key none) ∧ cat (upd f1 key (some v)) (upd f2 key none) = cat f1 f2 := by
  have h1 : f1 key = none := (S.ap key).resolve_right (by rw [h]; simp)
  have hk := S.k2 key v h
  refine ⟨putF_new hk h1 (by have := S.sum; omega), ⟨?_, S.k1.upd hk v, (S.del2 (key := key)).k2, by have := S.sum; omega⟩, cat_move S.ap h⟩
  exact (S.ap.none2 (key := key)).upd1 (by unfold upd; rw [if_pos rfl]) _
/-- A Put behind what begin has done: out of the elder, into the newer. -/
theorem GS.put (S : GS b u1 f1 u2 f2) (hk : 1 ≤ key.size ∧ key.size ≤ 33) {d : Bool} {u2' : Int} {f2' : KF} (hd : delF f2 u2 key = (d, u2', f2')) (n2 : 0 ≤ u2') (hr : f1 key = none → f2 key = none → u1 + u2 < 2 ^ b) :
    ∃ u1' f1', putF b f1 u1 key v = (0, u1', f1') ∧ GS b u1' f1' u2' f2' ∧ cat f1' f2' = upd (cat f1 f2) key (some v) ∧ ((∃ w, cat f1 f2 key = some w) ∧ u1' + u2' = u1 + u2 ∧ (u2' = u2 ∨ u2' = u2 - 1) ∨ cat f1 f2 key = none ∧ u1' = u1 + 1 ∧ u2' = u2) := by
  cases e1 : f1 key with
  | some w =>
    have h2 : f2 key = none := (S.ap key).resolve_left (by rw [e1]; simp)
    rw [delF_none h2] at hd; cases hd
    refine ⟨u1, upd f1 key (some v), putF_old hk e1, ⟨S.ap.upd1 h2 _, S.k1.upd hk v, S.k2, S.sum⟩, ?_, Or.inl ⟨⟨w, cat_left e1⟩, rfl, Or.inl rfl⟩⟩
    have := cat_upd1 (f1 := f1) (f2 := f2) (key := key) v
    rwa [upd_self_none h2] at this
  | none =>
    cases e2 : f2 key with
    | some w =>
      rw [delF_some e2] at hd; cases hd
      refine ⟨u1 + 1, upd f1 key (some v), putF_new hk e1 (by have := S.sum; omega), ⟨(S.ap.none2 (key := key)).upd1 (by unfold upd; rw [if_pos rfl]) _, S.k1.upd hk v, (S.del2 (key := key)).k2, by have := S.sum; omega⟩, cat_upd1 v, Or.inl ⟨⟨w, by rw [cat_right e1]; exact e2⟩, by omega, Or.inr rfl⟩⟩
    | none =>
      have hr2 := hr e1 e2
      rw [delF_none e2] at hd; cases hd
      refine ⟨u1 + 1, upd f1 key (some v), putF_new hk e1 (by omega), ⟨S.ap.upd1 e2 _, S.k1.upd hk v, S.k2, by omega⟩, ?_, Or.inr ⟨by rw [cat_right e1]; exact e2, rfl, rfl⟩⟩
      have := cat_upd1 (f1 := f1) (f2 := f2) (key := key) v
      rwa [upd_self_none e2] at this
theorem GS.zero (b : Nat) : GS b 0 (fun _ => none) 0 (fun _ => none) := ⟨fun k => Or.inl rfl, KeyOk.none, KeyOk.none, by have : (0 : Int) ≤ 2 ^ b := Int.le_of_lt (Int.pow_pos (by omega)); omega⟩
end Go.Proofs.Ytmnikjhnomphmaa.La


namespace Go.Proofs.Ytmnikjhnomphmaa.La
open Go.RowKit Go.Proofs.YtmnikjhnomphmaaW.PrintWords Go.Proofs.YtmnikjhnomphmaaW.PrintLast Go.Proofs.YtmnikjhnomphmaaW.PrintMore Go.Proofs.Ytmnikjhnomphmaa.Q
set_option linter.unusedSimpArgs false
set_option linter.unusedVariables false
theorem srt_eq : ∀ A B : List ByteArray, A.Pairwise tl → B.Pairwise tl → (∀ x, x ∈ A ↔ x ∈ B) → A = B
  | [], [], _, _, _ => rfl
  | [], b :: B, _, _, h => absurd ((h b).2 (by simp)) (by simp)
  | a :: A, [], _, _, h => absurd ((h a).1 (by simp)) (by simp)
  | a :: A, b :: B, hA, hB, h => by
    obtain ⟨a1, a2⟩ := List.pairwise_cons.1 hA
    obtain ⟨b1, b2⟩ := List.pairwise_cons.1 hB
    have e : a = b := by
      rcases List.mem_cons.1 ((h a).1 (by simp)) with e | e
      · exact e
      rcases List.mem_cons.1 ((h b).2 (by simp)) with e2 | e2
      · exact e2.symm
      exact absurd (tl_trans (b1 a e) (a1 b e2)) (tl_irr b)
    subst e
    congr 1
    refine srt_eq A B a2 b2 fun x => ⟨fun hx => ?_, fun hx => ?_⟩
    · rcases List.mem_cons.1 ((h x).1 (List.mem_cons_of_mem _ hx)) with e | e
      · subst e; exact absurd (a1 x hx) (tl_irr x)
      · exact e
    · rcases List.mem_cons.1 ((h x).2 (List.mem_cons_of_mem _ hx)) with e | e
      · subst e; exact absurd (b1 x hx) (tl_irr x)
      · exact e
theorem sortB_mem (xs : List ByteArray) (x : ByteArray) : x ∈ sortB xs ↔ x ∈ xs := by
  unfold sortB
  rw [List.mem_map]
  constructor
  · rintro ⟨y, hy, rfl⟩
    rw [(List.mergeSort_perm _ _).mem_iff, List.mem_map] at hy
    obtain ⟨z, hz, rfl⟩ := hy
    exact hz
  · intro h
    refine ⟨x.data.toList, ?_, rfl⟩
    rw [(List.mergeSort_perm _ _).mem_iff, List.mem_map]
    exact ⟨x, h, rfl⟩
theorem sortB_srt (xs : List ByteArray) (hn : xs.Nodup) : (sortB xs).Pairwise tl := by
  unfold sortB
  rw [List.pairwise_map]
  have h1 : ((xs.map fun (s : ByteArray) => s.data.toList).mergeSort fun x y => decide (x ≤ y)).Pairwise (fun x y => decide (x ≤ y) = true) :=
    List.pairwise_mergeSort (le := fun (x y : List UInt8) => decide (x ≤ y)) (fun a b c h k => decide_eq_true (List.le_trans (of_decide_eq_true h) (of_decide_eq_true k))) (fun a b => by
      by_cases h : b < a
      · rw [decide_eq_true (show b ≤ a from List.not_lt.1 fun k => List.lt_irrefl _ (List.lt_trans h k))]; simp
      · rw [decide_eq_true (show a ≤ b from List.not_lt.1 h)]; rfl) _
  have h2 : ((xs.map fun (s : ByteArray) => s.data.toList).mergeSort fun x y => decide (x ≤ y)).Nodup := by
    rw [(List.mergeSort_perm _ _).nodup_iff]
    unfold List.Nodup
    rw [List.pairwise_map]
    exact List.Pairwise.imp (fun h e => h (ba_ext e)) hn
  refine (List.Pairwise.and h1 h2).imp ?_
  rintro a b ⟨h, k⟩
  show a < b
  apply Classical.byContradiction
  intro hc
  exact k (List.le_antisymm (of_decide_eq_true h) (List.not_lt.1 hc))
theorem sl_getElem {l : List Sl} {i : Nat} (h : i < l.length) : sl l i = l[i] := by
  unfold sl rd_T84
  rw [Int.toNat_natCast, List.getD_eq_getElem?_getD, List.getElem?_eq_getElem h]; rfl
theorem keyL_mem (l : List Sl) (x : ByteArray) : x ∈ keyL l ↔ ∃ v, Has l x v := by
  unfold keyL
  rw [List.mem_map]
  constructor
  · rintro ⟨s, hs, rfl⟩
    obtain ⟨h1, h2⟩ := List.mem_filter.1 hs
    obtain ⟨i, hi, rfl⟩ := List.mem_iff_getElem.1 h1
    exact ⟨_, i, hi, by rw [sl_getElem hi]; exact h2, by rw [sl_getElem hi], rfl⟩
  · rintro ⟨v, i, hi, h1, h2, h3⟩
    rw [sl_getElem hi] at h1 h2
    exact ⟨l[i], List.mem_filter.2 ⟨List.getElem_mem hi, h1⟩, h2⟩
theorem keyL_nodup {hm : ByteArray → Nat} {l : List Sl} (I : Inv hm l) : (keyL l).Nodup := by
  unfold keyL List.Nodup
  rw [List.pairwise_map, List.pairwise_filter, List.pairwise_iff_getElem]
  intro i j hi hj hlt h1 h2 e
  rw [← sl_getElem hi] at h1 e
  rw [← sl_getElem hj] at h2 e
  have := I.uniq i j hi hj h1 h2 e
  omega
theorem keys_same {sd : Int} {b : Nat} {l : List Sl} {us us2 : Int} {f : ByteArray → Option Int} {L : List Pr} (h : TF sd b l us f) (k : MS L us2 f) : sortB (keyL l) = L.map (fun p => p.f0) := by
  refine srt_eq _ _ (sortB_srt _ (keyL_nodup h.inv)) ?_ fun x => ?_
  · rw [List.pairwise_map]; exact k.srt
  · rw [sortB_mem, keyL_mem, List.mem_map]
    constructor
    · rintro ⟨v, hv⟩
      exact ⟨_, (k.has x v).1 ((h.has x v).1 hv), rfl⟩
    · rintro ⟨⟨y, v⟩, hv, rfl⟩
      exact ⟨v, (h.has y v).2 ((k.has y v).2 hv)⟩
end Go.Proofs.Ytmnikjhnomphmaa.La


namespace Go.Proofs.Ytmnikjhnomphmaa.La
open Go.RowKit Go.Proofs.YtmnikjhnomphmaaW.PrintWords Go.Proofs.YtmnikjhnomphmaaW.PrintLast Go.Proofs.YtmnikjhnomphmaaW.PrintMore Go.Proofs.Ytmnikjhnomphmaa.Q
set_option linter.unusedSimpArgs false
set_option linter.unusedVariables false
/-- The elder: none, or a table apart. -/
def OT (lo : Nat → Prop) (gg g1 gs1 : Nat) (p : Option Addr) (sd : Int) (us : Int) (f : KF) (W : World) : Prop :=
  (p = none ∧ us = 0 ∧ f = fun _ => none) ∨ ∃ g2 gs2 b2, p = some ⟨g2, 0, none⟩ ∧ (lo g2 ∧ lo gs2) ∧ (g2 ≠ gg ∧ g2 ≠ g1 ∧ g2 ≠ gs1 ∧ gs2 ≠ gg ∧ gs2 ≠ g1 ∧ gs2 ≠ gs1) ∧ TT g2 gs2 sd b2 us f W
structure GM (lo : Nat → Prop) (gg g1 gs1 : Nat) (p : Option Addr) (sd : Int) (b : Nat) (u1 : Int) (f1 : KF) (u2 : Int) (f2 : KF) (W : World) : Prop where
  blk : W.heap[gg]? = some (.cells #[.int .u64 sd, .int .i64 (b : Int), .pointer (some ⟨g1, 0, none⟩), .pointer p] 64 (0, 0))
  t1 : TT g1 gs1 sd b u1 f1 W
  el : OT lo gg g1 gs1 p sd u2 f2 W
  sep : lo gg ∧ lo g1 ∧ lo gs1 ∧ gg ≠ g1 ∧ gg ≠ gs1
  top : ∀ q, W.heap.size ≤ q → lo q
variable {lo : Nat → Prop} {gg g1 gs1 b : Nat} {p : Option Addr} {sd u1 u2 : Int} {f1 f2 : KF} {W W' w : World}
theorem OT.below (h : OT lo gg g1 gs1 p sd u2 f2 W) (hb : Below W.heap.size W W') : OT lo gg g1 gs1 p sd u2 f2 W' := by
  rcases h with h | ⟨g2, gs2, b2, h1, h2, h3, h4⟩
  · exact Or.inl h
  · exact Or.inr ⟨g2, gs2, b2, h1, h2, h3, h4.below hb⟩
theorem GM.below (h : GM lo gg g1 gs1 p sd b u1 f1 u2 f2 W) (hb : Below W.heap.size W W') : GM lo gg g1 gs1 p sd b u1 f1 u2 f2 W' :=
  ⟨blk_below h.blk hb, h.t1.below hb, h.el.below hb, h.sep, fun q hq => h.top q (Nat.le_trans hb.size hq)⟩
theorem TT.lt2 {g gs : Nat} {sd : Int} {b : Nat} {us : Int} {f : KF} {W : World} (h : TT g gs sd b us f W) : g < W.heap.size ∧ gs < W.heap.size := by
  obtain ⟨l, h1, h2⟩ := h; exact ⟨blk_lt h1.hd, blk_lt h1.sl⟩
/-- What it owns, it keeps, whatever else is written. -/
theorem GM.keep {S2 S' : Nat → Prop} (h : GM lo gg g1 gs1 p sd b u1 f1 u2 f2 W) (F : Fr S2 W W') (d1 : ∀ q, lo q → q < W.heap.size → ¬ S2 q) (d2 : ∀ q, lo q → q < W.heap.size → S' q) (d3 : ∀ q, W'.heap.size ≤ q → S' q) : GM S' gg g1 gs1 p sd b u1 f1 u2 f2 W' := by
  have hs := h.sep
  have hl := blk_lt h.blk
  have ht := h.t1.lt2
  refine ⟨F.blk h.blk (d1 gg hs.1 hl), h.t1.fr F (d1 _ hs.2.1 ht.1) (d1 _ hs.2.2.1 ht.2), ?_, ⟨d2 _ hs.1 hl, d2 _ hs.2.1 ht.1, d2 _ hs.2.2.1 ht.2, hs.2.2.2⟩, d3⟩
  rcases h.el with h0 | ⟨g2, gs2, b2, k1, k2, k3, k4⟩
  · exact Or.inl h0
  · have h4 := k4.lt2
    exact Or.inr ⟨g2, gs2, b2, k1, ⟨d2 _ k2.1 h4.1, d2 _ k2.2 h4.2⟩, k3, k4.fr F (d1 _ k2.1 h4.1) (d1 _ k2.2 h4.2)⟩
theorem GM.drew (h : GM lo gg g1 gs1 p sd b u1 f1 u2 f2 W) : GM lo gg g1 gs1 p sd b u1 f1 u2 f2 W.drew := h.below (below_drew (Below.refl _ _))
theorem GM.cells (h : GM lo gg g1 gs1 p sd b u1 f1 u2 f2 W) : W.cell? ⟨gg, 0, none⟩ = some (.int .u64 sd) ∧ W.cell? ⟨gg, 1, none⟩ = some (.int .i64 (b : Int)) ∧ W.cell? ⟨gg, 2, none⟩ = some (.pointer (some ⟨g1, 0, none⟩)) ∧ W.cell? ⟨gg, 3, none⟩ = some (.pointer p) :=
  ⟨(blk_cell h.blk 0).trans rfl, (blk_cell h.blk 1).trans rfl, (blk_cell h.blk 2).trans rfl, (blk_cell h.blk 3).trans rfl⟩
theorem GM.rng (h : GM lo gg g1 gs1 p sd b u1 f1 u2 f2 W) : 0 ≤ u1 ∧ 0 ≤ u2 ∧ u1 ≤ 2 ^ b ∧ b ≤ 8 ∧ u2 ≤ 256 := by
  have h1 := h.t1.rng
  have hb : b ≤ 8 := by obtain ⟨l, _, hf⟩ := h.t1; exact hf.b1
  rcases h.el with ⟨_, h2, _⟩ | ⟨g2, gs2, b2, _, _, _, h4⟩
  · exact ⟨h1.1, by omega, h1.2, hb, by omega⟩
  · have h5 := h4.rng
    have h6 : (2 : Int) ^ b2 ≤ 256 := by
      obtain ⟨l, _, hf⟩ := h4
      have := Nat.pow_le_pow_right (show 0 < 2 by omega) hf.b1
      have e : ((2 ^ b2 : Nat) : Int) = 2 ^ b2 := by simp
      rw [← e]; omega
    exact ⟨h1.1, h5.1, h1.2, hb, by omega⟩
theorem gm_get1 (h : GM lo gg g1 gs1 p sd b u1 f1 u2 f2 w) (key : ByteArray) (hk : key.size ≤ 4611686018427387904) {v : Int} {is : Bool} (hp : getF f1 key = (v, is)) :
    Calls Try.prog 40 #[.pointer (some ⟨g1, 0, none⟩), .string key] w fun e w' => e = .returned (.tuple #[.int .i64 v, .bool is]) ∧ Below w.heap.size w w' :=
  (tt_get h.t1 key hk hp).mono (by rintro e w' ⟨rfl, _, h2⟩; exact ⟨rfl, h2⟩)
theorem gm_get2 (h : GM lo gg g1 gs1 p sd b u1 f1 u2 f2 w) (key : ByteArray) (hk : key.size ≤ 4611686018427387904) {v : Int} {is : Bool} (hp : getF f2 key = (v, is)) :
    Calls Try.prog 40 #[.pointer p, .string key] w fun e w' => e = .returned (.tuple #[.int .i64 v, .bool is]) ∧ Below w.heap.size w w' := by
  rcases h.el with ⟨rfl, _, rfl⟩ | ⟨g2, gs2, b2, rfl, _, _, h4⟩
  · refine (robin_Table_Get.calls_nil key w).mono ?_
    rintro e w' ⟨rfl, rfl⟩
    cases hp
    exact ⟨rfl, Below.refl _ _⟩
  · exact (tt_get h4 key hk hp).mono (by rintro e w' ⟨rfl, _, h2⟩; exact ⟨rfl, h2⟩)
theorem gm_len1 (h : GM lo gg g1 gs1 p sd b u1 f1 u2 f2 w) : Calls Try.prog 31 #[.pointer (some ⟨g1, 0, none⟩)] w fun e w' => e = .returned (.int .i64 u1) ∧ w' = w := tt_len h.t1
theorem gm_len2 (h : GM lo gg g1 gs1 p sd b u1 f1 u2 f2 w) : Calls Try.prog 31 #[.pointer p] w fun e w' => e = .returned (.int .i64 u2) ∧ w' = w := by
  rcases h.el with ⟨rfl, rfl, rfl⟩ | ⟨g2, gs2, b2, rfl, _, _, h4⟩
  · exact robin_Table_Len.calls_nil w
  · exact tt_len h4
theorem gm_del1 (h : GM lo gg g1 gs1 p sd b u1 f1 u2 f2 w) (key : ByteArray) (hk : key.size ≤ 4611686018427387904) {e0 : Bool} {u1' : Int} {f1' : KF} (hp : delF f1 u1 key = (e0, u1', f1')) :
    Calls Try.prog 38 #[.pointer (some ⟨g1, 0, none⟩), .string key] w fun e w' => e = .returned (.bool e0) ∧ GM lo gg g1 gs1 p sd b u1' f1' u2 f2 w' ∧ Fr lo w w' := by
  refine (tt_del h.t1 key hk hp).mono ?_
  rintro e w' ⟨rfl, ht, hf⟩
  have hs := h.sep
  refine ⟨rfl, ⟨hf.blk h.blk (by omega), ht, ?_, hs, fun q hq => h.top q (Nat.le_trans hf.size hq)⟩, hf.mono (fun q hq => by rcases hq with rfl | rfl; exact hs.2.1; exact hs.2.2.1)⟩
  rcases h.el with h0 | ⟨g2, gs2, b2, k1, k2, k3, k4⟩
  · exact Or.inl h0
  · exact Or.inr ⟨g2, gs2, b2, k1, k2, k3, k4.fr hf (by omega) (by omega)⟩
theorem gm_del2 (h : GM lo gg g1 gs1 p sd b u1 f1 u2 f2 w) (key : ByteArray) (hk : key.size ≤ 4611686018427387904) {e0 : Bool} {u2' : Int} {f2' : KF} (hp : delF f2 u2 key = (e0, u2', f2')) :
    Calls Try.prog 38 #[.pointer p, .string key] w fun e w' => e = .returned (.bool e0) ∧ GM lo gg g1 gs1 p sd b u1 f1 u2' f2' w' ∧ Fr lo w w' := by
  rcases h.el with ⟨rfl, rfl, rfl⟩ | ⟨g2, gs2, b2, rfl, k2, k3, k4⟩
  · refine (robin_Table_Delete.calls_nil key w).mono ?_
    rintro e w' ⟨rfl, rfl⟩
    cases hp
    exact ⟨rfl, h, Fr.refl _ _⟩
  · refine (tt_del k4 key hk hp).mono ?_
    rintro e w' ⟨rfl, ht, hf⟩
    have hs := h.sep
    exact ⟨rfl, ⟨hf.blk h.blk (by omega), h.t1.fr hf (by omega) (by omega), Or.inr ⟨g2, gs2, b2, rfl, k2, k3, ht⟩, hs, fun q hq => h.top q (Nat.le_trans hf.size hq)⟩, hf.mono (fun q hq => by rcases hq with rfl | rfl; exact k2.1; exact k2.2)⟩
theorem gm_put1 (h : GM lo gg g1 gs1 p sd b u1 f1 u2 f2 w) (key : ByteArray) (v : Int) (hk : key.size ≤ 4611686018427387904) {e0 u1' : Int} {f1' : KF} (hp : putF b f1 u1 key v = (e0, u1', f1')) :
    Calls Try.prog 39 #[.pointer (some ⟨g1, 0, none⟩), .string key, .int .i64 v] w fun e w' => e = .returned (.int .i64 e0) ∧ GM lo gg g1 gs1 p sd b u1' f1' u2 f2 w' ∧ Fr lo w w' := by
  refine (tt_put h.t1 key v hk hp).mono ?_
  rintro e w' ⟨rfl, ht, hf⟩
  have hs := h.sep
  refine ⟨rfl, ⟨hf.blk h.blk (by omega), ht, ?_, hs, fun q hq => h.top q (Nat.le_trans hf.size hq)⟩, hf.mono (fun q hq => by rcases hq with rfl | rfl; exact hs.2.1; exact hs.2.2.1)⟩
  rcases h.el with h0 | ⟨g2, gs2, b2, k1, k2, k3, k4⟩
  · exact Or.inl h0
  · exact Or.inr ⟨g2, gs2, b2, k1, k2, k3, k4.fr hf (by omega) (by omega)⟩
/-- The slots of the elder; if it has a key, one that is used. -/
theorem gm_slots2 (h : GM lo gg g1 gs1 p sd b u1 f1 u2 f2 w) (h0 : 0 < u2) : ∃ l : List Sl, l.length ≤ 256 ∧ (∃ i, i < l.length ∧ (sl l i).f0 = true) ∧ (∀ i, i < l.length → (sl l i).f0 = true → f2 (sl l i).f1 = some (sl l i).f2) ∧
    Calls Try.prog 49 #[.pointer p] w fun e w' => ∃ v, e = .returned v ∧ Kd.R k84 84 w' w.heap.size (fun _ => True) v l ∧ Below w.heap.size w w' := by
  rcases h.el with ⟨rfl, rfl, rfl⟩ | ⟨g2, gs2, b2, rfl, k2, k3, ⟨l, ht, hf⟩⟩
  · omega
  · have hz := hf.sz
    refine ⟨l, hz.2, ?_, fun i hi hu => (hf.has _ _).1 ⟨i, hi, hu, rfl, rfl⟩, robin_Table_Slots.calls g2 gs2 sd (b2 : Int) u2 l w ht (by omega)⟩
    apply Classical.byContradiction
    intro hc
    have hz2 : ∀ A : List Sl, (∀ i, i < A.length → ¬ (sl A i).f0 = true) → cnt A = 0 := fun A => by
      induction A with
      | nil => intro _; rfl
      | cons s A ih =>
        intro hA
        have h1 := hA 0 (by simp)
        rw [sl_zero] at h1
        have h2 := ih (fun i hi => by have := hA (i + 1) (by simpa using hi); rwa [sl_cons] at this)
        show bn s + cnt A = 0
        rw [h2]; unfold bn; rw [if_neg h1]
    have := hz2 l (fun i hi hu => hc ⟨i, hi, hu⟩)
    have := hf.us
    omega
/-- What Keys of a table tell: sorted, each that is there, once. -/
structure KeysIn (f : KF) (us : Int) (ks : List ByteArray) : Prop where
  srt : ks.Pairwise tl
  mem : ∀ k, k ∈ ks ↔ ∃ v, f k = some v
  len : (ks.length : Int) = us
theorem cnt_len : ∀ l : List Sl, (keyL l).length = cnt l
  | [] => by simp [keyL, cnt]
  | s :: l => by
    have ih := cnt_len l
    unfold keyL at ih ⊢
    show _ = bn s + cnt l
    rw [← ih]
    unfold bn
    cases e : s.f0 <;> simp [e] <;> omega
theorem sortB_len (xs : List ByteArray) : (sortB xs).length = xs.length := by
  unfold sortB
  rw [List.length_map, (List.mergeSort_perm _ _).length_eq, List.length_map]
theorem tt_keys {g gs : Nat} {us : Int} {f : KF} (h : TT g gs sd b us f w) : ∃ ks, KeysIn f us ks ∧ Calls Try.prog 33 #[.pointer (some ⟨g, 0, none⟩)] w fun e w' => ∃ v, e = .returned v ∧ Kd.R Kd.string 9 w' w.heap.size (fun _ => True) v ks ∧ Below w.heap.size w w' := by
  obtain ⟨l, ht, hf⟩ := h
  have hz := hf.sz
  refine ⟨sortB (keyL l), ⟨sortB_srt _ (keyL_nodup hf.inv), fun k => ?_, by rw [sortB_len, cnt_len, hf.us]⟩, robin_Table_Keys.calls g gs sd (b : Int) us l w ht (by omega)⟩
  rw [sortB_mem, keyL_mem]
  exact ⟨fun ⟨v, hv⟩ => ⟨v, (hf.has k v).1 hv⟩, fun ⟨v, hv⟩ => ⟨v, (hf.has k v).2 hv⟩⟩
theorem gm_keys1 (h : GM lo gg g1 gs1 p sd b u1 f1 u2 f2 w) : ∃ ks, KeysIn f1 u1 ks ∧ Calls Try.prog 33 #[.pointer (some ⟨g1, 0, none⟩)] w fun e w' => ∃ v, e = .returned v ∧ Kd.R Kd.string 9 w' w.heap.size (fun _ => True) v ks ∧ Below w.heap.size w w' := tt_keys h.t1
/-- Of the elder in whatever world that comes of this one by what stands behind it. -/
theorem gm_keys2 (h : GM lo gg g1 gs1 p sd b u1 f1 u2 f2 w) : ∃ ks, KeysIn f2 u2 ks ∧ ∀ w3, Below w.heap.size w w3 → Calls Try.prog 33 #[.pointer p] w3 fun e w' => ∃ v, e = .returned v ∧ Kd.R Kd.string 9 w' w3.heap.size (fun _ => True) v ks ∧ Below w3.heap.size w3 w' := by
  rcases h.el with ⟨rfl, rfl, rfl⟩ | ⟨g2, gs2, b2, rfl, _, _, ⟨l, ht, hf⟩⟩
  · exact ⟨[], ⟨List.Pairwise.nil, fun k => by simp, rfl⟩, fun w3 _ => robin_Table_Keys.calls_nil w3⟩
  · have hz := hf.sz
    refine ⟨sortB (keyL l), ⟨sortB_srt _ (keyL_nodup hf.inv), fun k => ?_, by rw [sortB_len, cnt_len, hf.us]⟩, fun w3 hb => robin_Table_Keys.calls g2 gs2 sd (b2 : Int) u2 l w3 (ht.below hb) (by omega)⟩
    rw [sortB_mem, keyL_mem]
    exact ⟨fun ⟨v, hv⟩ => ⟨v, (hf.has k v).1 hv⟩, fun ⟨v, hv⟩ => ⟨v, (hf.has k v).2 hv⟩⟩
/-- A row of both, sorted, is the row of all. -/
theorem keys_cat (S : GS b u1 f1 u2 f2) {k1 k2 : List ByteArray} (h1 : KeysIn f1 u1 k1) (h2 : KeysIn f2 u2 k2) : KeysIn (cat f1 f2) (u1 + u2) (sortB (k1 ++ k2)) := by
  have nd : ∀ {ks : List ByteArray}, ks.Pairwise tl → ks.Nodup := fun h => h.imp (fun hab e => by subst e; exact tl_irr _ hab)
  refine ⟨sortB_srt _ (List.nodup_append.2 ⟨nd h1.srt, nd h2.srt, fun a ha c hc e => ?_⟩), fun k => ?_, by rw [sortB_len, List.length_append]; have := h1.len; have := h2.len; omega⟩
  · subst e
    obtain ⟨v1, e1⟩ := (h1.mem a).1 ha
    obtain ⟨v2, e2⟩ := (h2.mem a).1 hc
    rcases S.ap a with h | h
    · rw [h] at e1; cases e1
    · rw [h] at e2; cases e2
  · rw [sortB_mem, List.mem_append, h1.mem, h2.mem]
    unfold cat
    constructor
    · rintro (⟨v, e⟩ | ⟨v, e⟩)
      · exact ⟨v, by rw [e]⟩
      · cases e1 : f1 k with
        | some w => exact ⟨w, rfl⟩
        | none => exact ⟨v, e⟩
    · rintro ⟨v, e⟩
      cases e1 : f1 k with
      | some w => exact Or.inl ⟨w, rfl⟩
      | none => rw [e1] at e; exact Or.inr ⟨v, e⟩
theorem KeysIn.same {f : KF} {u u' : Int} {k1 k2 : List ByteArray} (h1 : KeysIn f u k1) (h2 : KeysIn f u' k2) : k1 = k2 := srt_eq _ _ h1.srt h2.srt fun x => by rw [h1.mem, h2.mem]
end Go.Proofs.Ytmnikjhnomphmaa.La


namespace Go.Proofs.Ytmnikjhnomphmaa.La
open Go.RowKit Go.Proofs.Ytmnikjhnomphmaa.Zip Go.Proofs.YtmnikjhnomphmaaW.PrintWords Go.Proofs.YtmnikjhnomphmaaW.PrintLast Go.Proofs.YtmnikjhnomphmaaW.PrintMore Go.Proofs.Ytmnikjhnomphmaa.Q
set_option linter.unusedSimpArgs false
set_option linter.unusedVariables false
theorem used_calls (u : Bool) (k : ByteArray) (v d : Int) (w : World) : Calls Try.prog 51 #[.agg #[.bool u, .string k, .int .i64 v, .int .i64 d]] w fun e w' => e = .returned (.bool u) ∧ Below w.heap.size w w' := by
  go_enter Try.func51, Try.ntmps51
  go_wp2
  go_ret
  exact ⟨rfl, (Below.refl _ _).alloc (Nat.le_refl _) _⟩
set_option maxRecDepth 100000 in
set_option maxHeartbeats 2000000 in
theorem index_calls (A : Option Addr) (c : Nat) (l : List Sl) (w : World) (hr : Kd.C k84 w A l.length l) (hl : l.length ≤ 256) (hex : ∃ i, i < l.length ∧ (sl l i).f0 = true) :
    Calls Try.prog 50 #[.slice A l.length c, .func (.func 51) #[] #[]] w fun e w' => ∃ i : Nat, e = .returned (.int .i64 i) ∧ i < l.length ∧ (sl l i).f0 = true ∧ Below w.heap.size w w' := by
  have HR := Aside0.mk hr
  have HL := Aside0.mk hl
  have HX := Aside0.mk hex
  clear hr hl hex
  go_enter Try.func50, Try.ntmps50
  go_wp2
  go_loopw [5, 8] (fun v5 v8 w' => ∃ i : Nat, v8 = .int .i64 i ∧ Aside0 (i ≤ l.length ∧ ∀ j, j < i → (sl l j).f0 = false) ∧ Aside0 (Below w.heap.size w w')) (fun _ v8 _ => l.length - (intOf v8).toNat)
  case atStart => exact ⟨0, rfl, ⟨Nat.zero_le _, fun j hj => absurd hj (Nat.not_lt_zero _)⟩, ⟨Below.refl _ _⟩⟩
  case round =>
    obtain ⟨i, rfl, HI, HB⟩ := hrel
    by_cases hlt : i < l.length
    · have d2 : decide (i < l.length) = true := decide_eq_true hlt
      have HLT := Aside0.mk hlt
      obtain ⟨ad, ea, y0, y1, y2, y3⟩ := at_T84 (Kd.C_below HR.out HB.out) (i : Int) (by omega) (by omega)
      subst ea
      simp only [Int.toNat_natCast] at y0 y1 y2 y3
      have DW := Aside0.mk (show wrap64 ((i : Int) + 1) = (i : Int) + 1 by have := HL.out; unfold wrap64; omega)
      have q0 := eq_true (show (0 : Int) ≤ (i : Int) by omega)
      have q1 := eq_true (show (i : Int) < (l.length : Int) by omega)
      have q2 := eq_true hlt
      obtain ⟨x, hx⟩ : ∃ x, rd_T84 l (i : Int) = x := ⟨_, rfl⟩
      have HXX := Aside0.mk hx
      rw [hx] at y0 y1 y2 y3
      clear hx hlt
      cases hu : x.f0 with
      | true =>
        rw [hu] at y0
        have HU := Aside0.mk hu
        clear hu
        go_wp2_with (go_at_call 51; refine (used_calls true x.f1 x.f2 x.f3 wr).mono ?_; rintro e w1 ⟨rfl, hb⟩; have HB1 := Aside0.mk (HB.out.trans (hb.mono HB.out.size)); clear hb)
        all_goals
          go_ret
          exact ⟨i, rfl, HLT.out, by rw [show sl l i = x from HXX.out]; exact HU.out, HB1.out⟩
      | false =>
        rw [hu] at y0
        have HU := Aside0.mk hu
        clear hu
        go_wp2_with (go_at_call 51; refine (used_calls false x.f1 x.f2 x.f3 wr).mono ?_; rintro e w1 ⟨rfl, hb⟩; have HB1 := Aside0.mk (HB.out.trans (hb.mono HB.out.size)); clear hb)
        all_goals
          refine ⟨⟨i + 1, by rw [DW.out]; rfl, ⟨by have := HLT.out; omega, fun j hj => ?_⟩, HB1⟩, ?_⟩
          · by_cases e : j = i
            · subst e; rw [show sl l j = x from HXX.out]; exact HU.out
            · exact HI.out.2 j (by omega)
          · rw [DW.out]; simp only [intOf]; have := HLT.out; omega
    · obtain rfl : i = l.length := by have := HI.out.1; omega
      obtain ⟨j, hj, hu⟩ := HX.out
      have := HI.out.2 j hj
      rw [hu] at this; cases this
set_option maxRecDepth 100000 in
set_option maxHeartbeats 2000000 in
theorem any_calls {lo : Nat → Prop} {gg g1 gs1 b : Nat} {p : Option Addr} {sd u1 u2 : Int} {f1 f2 : KF} {w : World} (h : GM lo gg g1 gs1 p sd b u1 f1 u2 f2 w) (h0 : 0 < u2) :
    Calls Try.prog 41 #[.agg #[.pointer p]] w fun e w' => ∃ key v, e = .returned (.tuple #[.string key, .bool true]) ∧ f2 key = some v ∧ Below w.heap.size w w' := by
  have HG := Aside0.mk h
  have H0 := Aside0.mk h0
  clear h h0
  go_enter Try.func41, Try.ntmps41
  go_upto_region 1 with (fail)
  obtain ⟨W0, hW0⟩ : ∃ W0, w.alloc (.cells #[.pointer p] 62) = W0 := ⟨_, rfl⟩
  obtain ⟨q, hq⟩ : ∃ q, w.heap.size = q := ⟨_, rfl⟩
  have z : W0.heap[q]? = some (.cells #[.pointer p] 62 (0, 0)) := by rw [← hW0, ← hq]; exact blk_new w _
  have HB0 := Aside0.mk (show Below w.heap.size w W0 from by rw [← hW0]; exact (Below.refl _ _).alloc (Nat.le_refl _) _)
  rw [hW0, hq]
  have z0 : W0.cell? ⟨q, 0, none⟩ = some (.pointer p) := (blk_cell z 0).trans rfl
  obtain ⟨l, hl, hex, hin, hS⟩ := gm_slots2 (HG.out.below HB0.out) H0.out
  have HS := Aside0.mk hS
  have HI := Aside0.mk (index_calls · · l · · hl hex)
  have HIN := Aside0.mk hin
  have HLL := Aside0.mk hl
  clear hW0 hq z hl hex hin hS
  go_upto_region 2 with (go_at_call 49; refine HS.out.mono ?_; rintro e w1 ⟨v1, rfl, ho, hb⟩; obtain ⟨As, cs, rfl⟩ := Kd.R_slice ho; have HO := Aside0.mk (Kd.R_reads' ho).2.2; have HB1 := Aside0.mk (HB0.out.trans (hb.mono HB0.out.size)); clear ho hb z0)
  go_upto_region 3 with (go_at_call 50; refine (HI.out As cs w1 HO.out).mono ?_; rintro e w2 ⟨i, rfl, hi, hu, hb⟩; have HB2 := Aside0.mk (HB1.out.trans (hb.mono HB1.out.size)); have HO2 := Aside0.mk (Kd.C_below HO.out hb); have HII := Aside0.mk (And.intro hi hu); clear hb hi hu)
  have d0 : decide ((i : Int) < 0) = false := decide_eq_false (by omega)
  have hi := HII.out.1
  obtain ⟨ad, ea, y0, y1, y2, y3⟩ := at_T84 HO2.out (i : Int) (by omega) (by omega)
  subst ea
  simp only [Int.toNat_natCast] at y0 y1 y2 y3
  have q0 := eq_true (show (0 : Int) ≤ (i : Int) by omega)
  have q1 := eq_true (show (i : Int) < (l.length : Int) by omega)
  have q2 := eq_true hi
  clear hi
  go_wp2
  go_ret2
  exact ⟨_, _, rfl, HIN.out i HII.out.1 HII.out.2, HB2.out⟩
end Go.Proofs.Ytmnikjhnomphmaa.La


namespace Go.Proofs.Ytmnikjhnomphmaa.La
open Go.RowKit Go.Proofs.Ytmnikjhnomphmaa.Zip Go.Proofs.YtmnikjhnomphmaaW.PrintWords Go.Proofs.YtmnikjhnomphmaaW.PrintLast Go.Proofs.YtmnikjhnomphmaaW.PrintMore Go.Proofs.Ytmnikjhnomphmaa.Q
set_option linter.unusedSimpArgs false
set_option linter.unusedVariables false
theorem R_bare {g base cap : Nat} {W : World} {cur : Array Value} {ok : Nat → Prop} (hg : W.heap[g]? = some (.cells cur 9 (0, 0))) (hb : base ≤ g) (ho : ok g) (hc : cap ≤ maxLen) (hs : cur.size = cap) : Kd.R Kd.string 9 W base ok (.slice (some ⟨g, 0, none⟩) 0 cap) [] := by
  refine ⟨fun k hk => ?_, [], ⟨rfl, Or.inr ⟨g, cap, cur, rfl, hb, hg, Nat.zero_le _, hc, by rw [hs]; show cap = cap * 1; omega, by simp⟩⟩, Reps.none _ _⟩
  have : g = k := by simpa [Value.ownBlock] using hk
  subst this
  exact ho
set_option maxRecDepth 100000 in
set_option maxHeartbeats 2000000 in
theorem grow_calls (n : Nat) (hn : n ≤ 100000) (w : World) : Calls Try.prog 42 #[.slice none 0 0, .int .i64 (n : Int)] w fun e w' => ∃ v, e = .returned v ∧ Kd.R Kd.string 9 w' w.heap.size (fun _ => True) v [] ∧ Below w.heap.size w w' := by
  by_cases h0 : n = 0
  · subst h0
    go_enter Try.func42, Try.ntmps42
    go_wp2
    go_ret
    exact ⟨_, rfl, Kd.R_nil _ _ _ _ _, Below.refl _ _⟩
  have inf : (Try.prog.info? 9).map (fun i => (i.zero, i.size, i.bytes)) = some (some (.string ⟨#[]⟩), 1, 16) := by kernel_rfl
  obtain ⟨i0, hi0, hm⟩ : ∃ i0, Try.prog.info? 9 = some i0 ∧ (i0.zero, i0.size, i0.bytes) = (some (Value.string ⟨#[]⟩), 1, 16) := by
    cases e : Try.prog.info? 9 with
    | none => rw [e] at inf; cases inf
    | some i => rw [e] at inf; exact ⟨i, rfl, Option.some.inj inf⟩
  have hz0 : i0.zero = some (.string ⟨#[]⟩) := congrArg (fun x => x.1) hm
  have hs1 : i0.size = 1 := congrArg (fun x => x.2.1) hm
  have hb1 : i0.bytes = 16 := congrArg (fun x => x.2.2) hm
  have hold : (Builtin.firstCells i0.size 0 (.slice none 0 0)).run Try.prog w.drew = .ok (([] : List Value).toArray) w.drew := by simp [Builtin.firstCells]
  have hrz : ∀ ty, (Builtin.append_ #[41, 3] ty #[.slice none 0 0, .int .i64 (n : Int)]).run Try.prog w = .ok (.slice (some ⟨w.heap.size, 0, none⟩) (0 + n) (grownCap w (0 + n) 0 9)) (w.drew.alloc (.cells (([] : List Value).toArray ++ Builtin.zeroCells (Value.string ⟨#[]⟩).cells n ++ Builtin.zeroCells (Value.string ⟨#[]⟩).cells (grownCap w (0 + n) 0 9 - (0 + n))) 9)) := fun ty =>
    Lib.run_append_grow_zeros w 41 3 ty 9 i0 (.string ⟨#[]⟩) .i64 .i64 Try.underlying41 Try.underlying3 hi0 hz0 none 0 0 [] hold n (by omega) (by omega) (by omega) (by omega) (by rw [hb1]; omega) (growslice_fits (by omega) (by rw [hb1]; omega))
  rw [Nat.zero_add] at hrz
  have hGn : n ≤ grownCap w n 0 9 := grownCap_ge w _ _ _
  have hGm : grownCap w n 0 9 ≤ maxLen := grownCap_le_maxLen w n 0 9 (by unfold maxLen; omega)
  obtain ⟨G, hG⟩ : ∃ G, grownCap w n 0 9 = G := ⟨_, rfl⟩
  rw [hG] at hrz hGn hGm
  have hG63 : G ≤ 9223372036854775807 := by unfold maxLen at hGm; omega
  obtain ⟨cs, hcs⟩ : ∃ cs, (([] : List Value).toArray ++ Builtin.zeroCells (Value.string ⟨#[]⟩).cells n ++ Builtin.zeroCells (Value.string ⟨#[]⟩).cells (G - n)) = cs := ⟨_, rfl⟩
  have hsz : cs.size = G := by rw [← hcs]; simp [Builtin.zeroCells, Value.cells]; omega
  rw [hcs] at hrz
  have HZ := Aside0.mk (And.intro hsz hGm)
  have h1 : decide ((n : Int) < 0) = false := decide_eq_false (by omega)
  have h2 : wrap64 ((n : Int) - 0) = (n : Int) := by unfold wrap64; omega
  have h4 : decide (0 < (n : Int)) = true := decide_eq_true (by omega)
  have h5 : decide (0 < n) = true := decide_eq_true (by omega)
  clear hG hcs hsz hGm hold inf hi0 hm hz0 hs1 hb1
  go_enter Try.func42, Try.ntmps42
  go_wp2_with (at_builtin; refine Lib.wpList_append_run _ rfl _ _ _ _ rfl _ _ rfl rfl _ _ (hrz _) ?_)
  all_goals
    go_ret
    refine ⟨_, rfl, R_bare (blk_new w.drew (.cells cs 9)) (Nat.le_refl _) trivial HZ.out.2 HZ.out.1, (below_drew (Below.refl _ _)).alloc (Nat.le_refl _) _⟩
end Go.Proofs.Ytmnikjhnomphmaa.La


namespace Go.Proofs.Ytmnikjhnomphmaa.La
open Go.RowKit Go.Proofs.Ytmnikjhnomphmaa.Zip Go.Proofs.YtmnikjhnomphmaaW.PrintWords Go.Proofs.YtmnikjhnomphmaaW.PrintLast Go.Proofs.YtmnikjhnomphmaaW.PrintMore Go.Proofs.Ytmnikjhnomphmaa.Q
set_option linter.unusedSimpArgs false
set_option linter.unusedVariables false
def partAt (k1 k2 : List ByteArray) (i : Nat) : List ByteArray := if i = 0 then [] else if i = 1 then k1 else k1 ++ k2
set_option maxRecDepth 100000 in
set_option maxHeartbeats 4000000 in
theorem concat_calls (q : Nat) (A1 A2 : Option Addr) (c1 c2 : Nat) (k1 k2 : List ByteArray) (w : World) (hq : w.heap[q]? = some (.cells #[.slice A1 k1.length c1, .slice A2 k2.length c2] 41 (0, 0)))
    (h1 : Kd.C Kd.string w A1 k1.length k1) (h2 : Kd.C Kd.string w A2 k2.length k2) (hl1 : k1.length ≤ 1000) (hl2 : k2.length ≤ 1000) :
    Calls Try.prog 32 #[.slice (some ⟨q, 0, none⟩) 2 2] w fun e w' => ∃ v, e = .returned v ∧ Kd.R Kd.string 9 w' w.heap.size (fun _ => True) v (k1 ++ k2) ∧ Below w.heap.size w w' := by
  have HQ := Aside0.mk hq
  have H1 := Aside0.mk h1
  have H2 := Aside0.mk h2
  have HL := Aside0.mk (And.intro hl1 hl2)
  have inf : (Try.prog.info? 9).map (fun i => (i.zero, i.size, i.bytes)) = some (some (.string ⟨#[]⟩), Kd.string.sz, 16) := by kernel_rfl
  have z0 : w.cell? ⟨q, 0, none⟩ = some (.slice A1 k1.length c1) := (blk_cell hq 0).trans rfl
  have z1 : w.cell? ⟨q, 1, none⟩ = some (.slice A2 k2.length c2) := (blk_cell hq 1).trans rfl
  have Z0 := Aside0.mk z0
  have Z1 := Aside0.mk z1
  have s0 : wrap64 (0 + (k1.length : Int)) = (k1.length : Int) := by unfold wrap64; omega
  have s1 : wrap64 ((k1.length : Int) + (k2.length : Int)) = ((k1.length + k2.length : Nat) : Int) := by unfold wrap64; omega
  have s00 : wrap64 (k1.length : Int) = (k1.length : Int) := by unfold wrap64; omega
  have S0 := Aside0.mk s00
  have S1 := Aside0.mk s1
  have n0 : decide ((k1.length : Int) < 0) = false := decide_eq_false (by omega)
  have n1 : decide ((k1.length : Int) + (k2.length : Int) < 0) = false := decide_eq_false (by omega)
  have n1n : decide (((k1.length + k2.length : Nat) : Int) < 0) = false := decide_eq_false (by omega)
  clear hq h1 h2 hl1 hl2
  go_enter Try.func32, Try.ntmps32
  go_wp2
  go_loopw [3, 5, 11] (fun v3 v5 v11 w' => ∃ i : Nat, v11 = .int .i64 i ∧ v3 = .int .i64 ((if i = 0 then 0 else if i = 1 then k1.length else k1.length + k2.length : Nat) : Int) ∧ Aside0 (i ≤ 2) ∧ w' = w) (fun _ _ v11 _ => 2 - (intOf v11).toNat)
  case atStart => exact ⟨0, rfl, rfl, ⟨by omega⟩, rfl⟩
  case round =>
    obtain ⟨i, rfl, rfl, HI, hw⟩ := hrel
    have hw2 := hw.symm
    subst hw2
    clear hw
    have hi := HI.out
    obtain rfl | rfl | rfl : i = 0 ∨ i = 1 ∨ i = 2 := by omega
    · go_wp2
      refine ⟨⟨1, rfl, by first | rfl | (rw [S0.out]; rfl), ⟨by omega⟩, by first | rfl | trivial⟩, by decide⟩
    · go_wp2
      refine ⟨⟨2, rfl, by first | rfl | (rw [S1.out]; rfl), ⟨by omega⟩, by first | rfl | trivial⟩, by decide⟩
    · clear hi z0 z1
      go_upto_region 10 with (go_at_call 42; refine (grow_calls (k1.length + k2.length) (by have := HL.out; omega) w).mono ?_; rintro e w1 ⟨v1, rfl, ho, hb⟩; have HO := Aside0.mk ho; have HB := Aside0.mk hb; clear ho hb)
      go_wp2
      go_loopw [6, 8, 27] (fun v6 v8 v27 w' => ∃ i : Nat, v27 = .int .i64 i ∧ Aside0 (i ≤ 2) ∧ Aside0 (Kd.R Kd.string 9 w' w.heap.size (fun _ => True) v6 (partAt k1 k2 i)) ∧ Aside0 (Below w.heap.size w w')) (fun _ _ v27 _ => 2 - (intOf v27).toNat)
      case atStart => exact ⟨0, rfl, ⟨by omega⟩, HO, HB⟩
      case round =>
        clear HO HB
        obtain ⟨i, rfl, HI, HO, HB⟩ := hrel
        have hi := HI.out
        have z0 := pw_cell_below HB.out Z0.out
        have z1 := pw_cell_below HB.out Z1.out
        obtain rfl | rfl | rfl : i = 0 ∨ i = 1 ∨ i = 2 := by omega
        · clear hi HI
          have HC := Aside0.mk (Kd.C_below H1.out HB.out)
          go_wp2_with ((with_reducible refine gate_builtin (b := .append) (xs := #[.tmp 31, .tmp 32]) rfl ?_); at_builtin; refine Kd.R_append_rows Kd.string (w0 := w) w.heap.size rfl (.tmp 31) (.tmp 32) 41 9 (.string ⟨#[]⟩) 16 rfl Try.underlying41 inf rfl (by decide) (by omega) _ [] k1 A1 k1.length c1 (fun _ => True) (fun _ => False) rfl rfl HO.out HC.out (fun _ _ h => h) (fun _ h => h.elim) (fun _ _ => trivial) HB.out HB.out.size (by have := HL.out; show (0 + k1.length) * 16 ≤ 140737488355328; omega) ?_; intro v7 w7 ho hb7 hg7 hat7; have HO7 := Aside0.mk ho; have HB7 := Aside0.mk hb7; clear ho hb7 hg7 hat7 z0 z1)
          refine ⟨⟨1, by first | rfl | simp, ⟨by omega⟩, ⟨HO7.out⟩, HB7⟩, by decide⟩
        · clear hi HI
          have HC := Aside0.mk (Kd.C_below H2.out HB.out)
          have HO1 := Aside0.mk (show Kd.R Kd.string 9 wr w.heap.size (fun _ => True) _ k1 from HO.out)
          go_wp2_with ((with_reducible refine gate_builtin (b := .append) (xs := #[.tmp 31, .tmp 32]) rfl ?_); at_builtin; refine Kd.R_append_rows Kd.string (w0 := w) w.heap.size rfl (.tmp 31) (.tmp 32) 41 9 (.string ⟨#[]⟩) 16 rfl Try.underlying41 inf rfl (by decide) (by omega) _ k1 k2 A2 k2.length c2 (fun _ => True) (fun _ => False) rfl rfl HO1.out HC.out (fun _ _ h => h) (fun _ h => h.elim) (fun _ _ => trivial) HB.out HB.out.size (by have := HL.out; omega) ?_; intro v7 w7 ho hb7 hg7 hat7; have HO7 := Aside0.mk ho; have HB7 := Aside0.mk hb7; clear ho hb7 hg7 hat7 z0 z1)
          refine ⟨⟨2, by first | rfl | simp, ⟨by omega⟩, ⟨HO7.out⟩, HB7⟩, by decide⟩
        · clear hi HI z0 z1
          go_wp2
          go_ret
          exact ⟨_, rfl, HO.out, HB.out⟩
end Go.Proofs.Ytmnikjhnomphmaa.La


namespace Go.Proofs.Ytmnikjhnomphmaa.La
open Go.RowKit Go.Proofs.Ytmnikjhnomphmaa.Zip Go.Proofs.YtmnikjhnomphmaaW.PrintWords Go.Proofs.YtmnikjhnomphmaaW.PrintLast Go.Proofs.YtmnikjhnomphmaaW.PrintMore Go.Proofs.Ytmnikjhnomphmaa.Q
set_option linter.unusedSimpArgs false
set_option linter.unusedVariables false
variable {lo : Nat → Prop} {gg g1 gs1 b : Nat} {p : Option Addr} {sd u1 u2 : Int} {f1 f2 : KF} {w : World}
theorem pow_le8 {b : Nat} (h : b ≤ 8) : (2 : Int) ^ b ≤ 256 := by
  have := Nat.pow_le_pow_right (show 0 < 2 by omega) h
  have e : ((2 ^ b : Nat) : Int) = 2 ^ b := by simp
  rw [← e]; omega
theorem gl_left (h : GM lo gg g1 gs1 p sd b u1 f1 u2 f2 w) : Calls Try.prog 19 #[.pointer (some ⟨gg, 0, none⟩)] w fun e w' => e = .returned (.int .i64 u2) ∧ w' = w := by
  obtain ⟨_, _, _, x3⟩ := h.cells
  have HL := Aside0.mk (gm_len2 h)
  clear h
  go_enter Try.func19, Try.ntmps19
  go_wp2_with (go_at_call 31; refine HL.out.mono ?_; rintro e w1 ⟨rfl, hw⟩; have hw2 := hw.symm; subst hw2)
  go_ret
  exact ⟨rfl, rfl⟩
theorem gl_bits (h : GM lo gg g1 gs1 p sd b u1 f1 u2 f2 w) : Calls Try.prog 20 #[.pointer (some ⟨gg, 0, none⟩)] w fun e w' => e = .returned (.int .i64 (b : Int)) ∧ w' = w := by
  obtain ⟨_, x1, _, _⟩ := h.cells
  clear h
  go_enter Try.func20, Try.ntmps20
  go_wp2
  go_ret
  exact ⟨rfl, rfl⟩
set_option maxHeartbeats 4000000 in
theorem gl_len (h : GM lo gg g1 gs1 p sd b u1 f1 u2 f2 w) (S : GS b u1 f1 u2 f2) : Calls Try.prog 15 #[.pointer (some ⟨gg, 0, none⟩)] w fun e w' => e = .returned (.int .i64 (u1 + u2)) ∧ GM lo gg g1 gs1 p sd b u1 f1 u2 f2 w' ∧ Below w.heap.size w w' := by
  obtain ⟨_, _, x2, x3⟩ := h.drew.cells
  have x2a : w.cell? ⟨gg, 2, none⟩ = _ := x2
  have x3a : w.cell? ⟨gg, 3, none⟩ = _ := x3
  have HL1 := Aside0.mk (gm_len1 h.drew)
  have HL2 := Aside0.mk (gm_len2 h.drew)
  have HG := Aside0.mk h
  have h0 := h.rng
  have hp := pow_le8 h0.2.2.2.1
  have s1 : wrap64 (u1 + u2) = u1 + u2 := by unfold wrap64; omega
  have s2 : IntKind.i64.wrap (u1 + u2) = u1 + u2 := by rw [IntKind.wrap_i64]; omega
  clear h h0 hp
  go_enter Try.func15, Try.ntmps15
  go_upto_region 3 with (fail)
  go_region_with (first | (go_at_call 31; refine HLx.out.mono ?_; rintro e w1 ⟨rfl, hw⟩; have hw2 := hw.symm; subst hw2) | (go_at_call 31; refine HL1.out.mono ?_; rintro e w1 ⟨rfl, hw⟩; have hw2 := hw.symm; subst hw2; have HLx := HL2))
  all_goals
    go_wp2
    go_ret
    exact ⟨rfl, HG.out.drew, below_drew (Below.refl _ _)⟩
end Go.Proofs.Ytmnikjhnomphmaa.La


namespace Go.Proofs.Ytmnikjhnomphmaa.La
open Go.RowKit Go.Proofs.Ytmnikjhnomphmaa.Zip Go.Proofs.YtmnikjhnomphmaaW.PrintWords Go.Proofs.YtmnikjhnomphmaaW.PrintLast Go.Proofs.YtmnikjhnomphmaaW.PrintMore Go.Proofs.Ytmnikjhnomphmaa.Q
set_option linter.unusedSimpArgs false
set_option linter.unusedVariables false
variable {lo : Nat → Prop} {gg g1 gs1 b : Nat} {p : Option Addr} {sd u1 u2 : Int} {f1 f2 : KF} {w : World}
set_option maxHeartbeats 4000000 in
theorem gl_get (h : GM lo gg g1 gs1 p sd b u1 f1 u2 f2 w) (key : ByteArray) (hk : key.size ≤ 4611686018427387904) {n : Int} {is : Bool} (hp : getF (cat f1 f2) key = (n, is)) :
    Calls Try.prog 26 #[.pointer (some ⟨gg, 0, none⟩), .string key] w fun e w' => e = .returned (.tuple #[.int .i64 n, .bool is]) ∧ GM lo gg g1 gs1 p sd b u1 f1 u2 f2 w' ∧ Below w.heap.size w w' := by
  have HG := Aside0.mk h
  have HK := Aside0.mk hk
  obtain ⟨_, _, x2, x3⟩ := h.cells
  obtain ⟨n1, i1, e1⟩ : ∃ n1 i1, getF f1 key = (n1, i1) := ⟨_, _, rfl⟩
  have HC1 := Aside0.mk (gm_get1 h key hk e1)
  clear h hk
  cases i1 with
  | true =>
    have hh := (getF_left (f2 := f2) e1).symm.trans hp
    obtain ⟨rfl, rfl⟩ : n1 = n ∧ true = is := by cases hh; exact ⟨rfl, rfl⟩
    clear hh hp e1
    go_enter Try.func26, Try.ntmps26
    go_wp2_with (go_at_call 40; refine HC1.out.mono ?_; rintro e w1 ⟨rfl, hb⟩; have HB1 := Aside0.mk hb; clear hb x2 x3)
    go_ret2
    exact ⟨rfl, HG.out.below HB1.out, HB1.out⟩
  | false =>
    have hh := (getF_right (f2 := f2) e1).symm.trans hp
    have HH := Aside0.mk hh
    clear hh hp e1
    go_enter Try.func26, Try.ntmps26
    go_upto_region 6 with (go_at_call 40; refine HC1.out.mono ?_; rintro e w1 ⟨rfl, hb⟩; have HB1 := Aside0.mk hb; clear hb x2 x3)
    have HG1 := Aside0.mk (HG.out.below HB1.out)
    obtain ⟨_, _, x2, x3⟩ := HG1.out.cells
    go_wp2_with (go_at_call 40; refine (gm_get2 HG1.out key HK.out HH.out).mono ?_; rintro e w2 ⟨rfl, hb⟩; have HB2 := Aside0.mk hb; clear hb x2 x3)
    go_ret2
    exact ⟨rfl, HG1.out.below HB2.out, HB1.out.trans (HB2.out.mono HB1.out.size)⟩
set_option maxHeartbeats 4000000 in
theorem gl_del (h : GM lo gg g1 gs1 p sd b u1 f1 u2 f2 w) (S : GS b u1 f1 u2 f2) (key : ByteArray) (hk : key.size ≤ 4611686018427387904) {e0 : Bool} {us' : Int} {f' : KF} (hp : delF (cat f1 f2) (u1 + u2) key = (e0, us', f')) :
    Calls Try.prog 25 #[.pointer (some ⟨gg, 0, none⟩), .string key] w fun e w' => e = .returned (.bool e0) ∧ (∃ u1' f1' u2' f2', GM lo gg g1 gs1 p sd b u1' f1' u2' f2' w' ∧ GS b u1' f1' u2' f2' ∧ us' = u1' + u2' ∧ f' = cat f1' f2' ∧ u1' ≤ u1 ∧ u2' ≤ u2 ∧ u2 - 1 ≤ u2') ∧ Fr lo w w' := by
  have HG := Aside0.mk h
  have HS := Aside0.mk S
  have HK := Aside0.mk hk
  obtain ⟨_, _, x2, x3⟩ := h.cells
  cases e1 : f1 key with
  | some v =>
    have HC1 := Aside0.mk (gm_del1 h key hk (delF_some e1))
    have hh := (delF_some (u2 := u1 + u2) (cat_left (f2 := f2) e1)).symm.trans hp
    have HE := Aside0.mk hh
    have HE1 := Aside0.mk e1
    obtain rfl : true = e0 := by cases hh; rfl
    clear h S hk hp hh e1
    go_enter Try.func25, Try.ntmps25
    go_wp2_with (go_at_call 38; refine HC1.out.mono ?_; rintro e w1 ⟨rfl, hg, hb⟩; have HG1 := Aside0.mk hg; have HB1 := Aside0.mk hb; clear hg hb x2 x3)
    go_ret
    have hh := HE.out
    simp only [Prod.mk.injEq] at hh
    exact ⟨rfl, ⟨u1 - 1, _, u2, _, HG1.out, HS.out.del1 HE1.out, by omega, by rw [← hh.2.2, cat_del1 HS.out.ap HE1.out], by omega, by omega, by omega⟩, HB1.out⟩
  | none =>
    have HC1 := Aside0.mk (gm_del1 h key hk (delF_none e1))
    have HE1 := Aside0.mk e1
    obtain ⟨d, u2', f2', e2⟩ : ∃ d u2' f2', delF f2 u2 key = (d, u2', f2') := ⟨_, _, _, rfl⟩
    have HE2 := Aside0.mk e2
    have key2 : d = e0 ∧ GS b u1 f1 u2' f2' ∧ us' = u1 + u2' ∧ f' = cat f1 f2' ∧ u2' ≤ u2 ∧ u2 - 1 ≤ u2' := by
      cases e3 : f2 key with
      | none =>
        rw [delF_none e3] at e2
        rw [delF_none (by rw [cat_right e1]; exact e3)] at hp
        cases e2; cases hp
        exact ⟨rfl, S, rfl, rfl, by omega, by omega⟩
      | some v =>
        rw [delF_some e3] at e2
        rw [delF_some (v := v) (by rw [cat_right e1]; exact e3)] at hp
        cases e2; cases hp
        exact ⟨rfl, S.del2, by omega, (cat_del2 e1).symm, by omega, by omega⟩
    obtain ⟨rfl, k1, k2, k3, k4, k5⟩ := key2
    have HKK := Aside0.mk (And.intro k1 (And.intro k2 (And.intro k3 (And.intro k4 k5))))
    clear h S hk hp e1 e2 k1 k2 k3 k4 k5
    go_enter Try.func25, Try.ntmps25
    go_wp2_with (first | (go_at_call 38; refine (gm_del2 HG1.out key HK.out HE2.out).mono ?_; rintro e w2 ⟨rfl, hg, hb⟩; have HG2 := Aside0.mk hg; have HB2 := Aside0.mk (HB1.out.trans hb); clear hg hb x2 x3) | (go_at_call 38; refine HC1.out.mono ?_; rintro e w1 ⟨rfl, hg, hb⟩; have HG1 := Aside0.mk hg; have HB1 := Aside0.mk hb; clear hg hb x2 x3; obtain ⟨_, _, x2, x3⟩ := HG1.out.cells))
    go_ret
    obtain ⟨k1, k2, k3, k4, k5⟩ := HKK.out
    exact ⟨rfl, ⟨u1, f1, u2', f2', HG2.out, k1, k2, k3, by omega, k4, k5⟩, HB2.out⟩
set_option maxRecDepth 100000 in
set_option maxHeartbeats 4000000 in
theorem gl_new_no (sd bi : Int) (w : World) (h : bi < 1 ∨ 8 < bi) : Calls Try.prog 12 #[.int .u64 sd, .int .i64 bi] w fun e w' => e = .returned (.tuple #[.pointer none, .int .i64 1]) ∧ w' = w := by
  have HC := Aside0.mk (robin_New.calls_no sd bi w h)
  clear h
  go_enter Try.func12, Try.ntmps12
  go_wp2_with (go_at_call 29; refine HC.out.mono ?_; rintro e w1 ⟨rfl, hw⟩; have hw2 := hw.symm; subst hw2)
  go_ret2
  exact ⟨rfl, rfl⟩
set_option maxRecDepth 100000 in
set_option maxHeartbeats 4000000 in
theorem gl_new (lo : Nat → Prop) (sd : Int) (b : Nat) (w : World) (hlo : ∀ q, w.heap.size ≤ q → lo q) (h0 : 1 ≤ b) (h1 : b ≤ 8) : Calls Try.prog 12 #[.int .u64 sd, .int .i64 (b : Int)] w fun e w' => ∃ gg g1 gs1, e = .returned (.tuple #[.pointer (some ⟨gg, 0, none⟩), .int .i64 0]) ∧ GM lo gg g1 gs1 none sd b 0 (fun _ => none) 0 (fun _ => none) w' ∧ Below w.heap.size w w' := by
  have HC := Aside0.mk (tt_new sd b w h0 h1)
  clear h0 h1
  go_enter Try.func12, Try.ntmps12
  go_wp2_with (go_at_call 29; refine HC.out.mono ?_; rintro e w1 ⟨rfl, ht, hb⟩; have HT := Aside0.mk ht; have HB := Aside0.mk hb; clear ht hb)
  go_ret2
  refine ⟨w1.heap.size, w.heap.size + 1, w.heap.size, rfl, ⟨blk_new w1 _, HT.out.alloc _, Or.inl ⟨rfl, rfl, rfl⟩, ?_, fun q hq => hlo q (by have h2 : (w1.alloc _).heap.size ≤ q := hq; have h3 := (HB.out.alloc HB.out.size (.cells #[.int .u64 sd, .int .i64 (b : Int), .pointer (some ⟨w.heap.size + 1, 0, none⟩), .pointer none] 64)).size; simp at h2; have := HB.out.size; omega)⟩, HB.out.alloc HB.out.size _⟩
  obtain ⟨l, ht, _⟩ := HT.out
  have := blk_lt ht.hd
  have := HB.out.size
  exact ⟨hlo _ (by omega), hlo _ (by omega), hlo _ (by omega), by omega, by omega⟩
end Go.Proofs.Ytmnikjhnomphmaa.La


namespace Go.Proofs.Ytmnikjhnomphmaa.La
open Go.RowKit Go.Proofs.Ytmnikjhnomphmaa.Zip Go.Proofs.YtmnikjhnomphmaaW.PrintWords Go.Proofs.YtmnikjhnomphmaaW.PrintLast Go.Proofs.YtmnikjhnomphmaaW.PrintMore Go.Proofs.Ytmnikjhnomphmaa.Q
set_option linter.unusedSimpArgs false
set_option linter.unusedVariables false
variable {lo : Nat → Prop} {gg g1 gs1 b : Nat} {p : Option Addr} {sd u1 u2 : Int} {f1 f2 : KF} {w : World}
theorem own_base_R {W : World} {base : Nat} {ok : Nat → Prop} {v : Value} {xs : List ByteArray} (h : Kd.R Kd.string 9 W base ok v xs) (k : Nat) (hk : v.ownBlock = some k) : base ≤ k := by
  obtain ⟨_, inner, hown, _⟩ := h
  exact own_base hown k hk
set_option maxRecDepth 100000 in
set_option maxHeartbeats 4000000 in
theorem gl_keys (h : GM lo gg g1 gs1 p sd b u1 f1 u2 f2 w) (S : GS b u1 f1 u2 f2) : ∃ ks, KeysIn (cat f1 f2) (u1 + u2) ks ∧ Calls Try.prog 17 #[.pointer (some ⟨gg, 0, none⟩)] w fun e w' => ∃ v, e = .returned v ∧ Kd.R Kd.string 9 w' w.heap.size (fun _ => True) v ks ∧ Below w.heap.size w w' := by
  have hr := h.rng
  have hp := pow_le8 hr.2.2.2.1
  obtain ⟨ks1, hk1, hc1⟩ := gm_keys1 h.drew
  obtain ⟨ks2, hk2, hc2⟩ := gm_keys2 h.drew
  refine ⟨sortB (ks1 ++ ks2), keys_cat S hk1 hk2, ?_⟩
  have hl1 : ks1.length ≤ 1000 := by have := hk1.len; omega
  have hl2 : ks2.length ≤ 1000 := by have := hk2.len; omega
  have HC1 := Aside0.mk hc1
  have HC2 := Aside0.mk hc2
  have HL := Aside0.mk (And.intro hl1 hl2)
  have HG := Aside0.mk h
  have HB0 := Aside0.mk (show Below w.heap.size w w.drew from below_drew (Below.refl _ _))
  obtain ⟨_, _, x2, x3⟩ := h.cells
  have x2d : w.drew.cell? ⟨gg, 2, none⟩ = _ := x2
  have x3d : w.drew.cell? ⟨gg, 3, none⟩ = _ := x3
  have X3 := Aside0.mk x3d
  clear hr hp hc1 hc2 hk1 hk2 hl1 hl2 h S
  go_enter Try.func17, Try.ntmps17
  go_upto_region 3 with (fail)
  go_region_with (first | (go_at_call 32; refine (concat_calls w2.heap.size A1 A2 c1 c2 ks1 ks2 _ (blk_new w2 _) (Kd.C_below HKa.out ((Below.refl _ _).alloc (Nat.le_refl _) _)) (Kd.C_below HKb.out ((Below.refl _ _).alloc (Nat.le_refl _) _)) HL.out.1 HL.out.2).mono ?_; rintro e w3 ⟨v3, rfl, ho, hb⟩; have HBy := (show Below w.heap.size w w2 from HB0.out.trans HB2.out).alloc (show w.heap.size ≤ w2.heap.size from HB2.out.size) (.cells #[.slice A1 ks1.length c1, .slice A2 ks2.length c2] 41); have HO3 := Aside0.mk (Kd.R_lower ho HBy.size); have HB3 := Aside0.mk (HBy.trans (hb.mono HBy.size)); clear ho hb HBy) | (go_at_call 33; refine (HCx.out w1 HBx.out).mono ?_; rintro e w2 ⟨v2, rfl, ho, hb⟩; obtain ⟨A2, c2, rfl⟩ := Kd.R_slice ho; have HKb := Aside0.mk (Kd.R_reads' ho).2.2; have HKa := Aside0.mk (Kd.C_below HKc.out hb); have HB2 := Aside0.mk (HBx.out.trans (hb.mono HBx.out.size)); clear ho hb x3) | (go_at_call 33; refine HC1.out.mono ?_; rintro e w1 ⟨v1, rfl, ho, hb⟩; obtain ⟨A1, c1, rfl⟩ := Kd.R_slice ho; have HKc := Aside0.mk (Kd.R_reads' ho).2.2; have HBx := Aside0.mk hb; have HCx := HC2; clear x2 x3 x2d x3d ho; have x3 := pw_cell_below hb X3.out; clear hb))
  all_goals
    go_wp2_with (go_at_call 34; refine (slices_Sort_string_string.calls _ w.heap.size _ v3 (ks1 ++ ks2) (by rw [List.length_append]; have := HL.out; omega) HO3.out).mono ?_; rintro e w4 ⟨rfl, ho, hg⟩; have HO4 := Aside0.mk ho; have HB4 := Aside0.mk (HB3.out.grown hg HB3.out.size (fun k e => own_base_R HO3.out k e)); clear ho hg)
    go_ret
    exact ⟨_, rfl, HO4.out, HB4.out⟩
end Go.Proofs.Ytmnikjhnomphmaa.La


namespace Go.Proofs.Ytmnikjhnomphmaa.La
open Go.RowKit Go.Proofs.Ytmnikjhnomphmaa.Zip Go.Proofs.YtmnikjhnomphmaaW.PrintWords Go.Proofs.YtmnikjhnomphmaaW.PrintLast Go.Proofs.YtmnikjhnomphmaaW.PrintMore Go.Proofs.Ytmnikjhnomphmaa.Q
set_option linter.unusedSimpArgs false
set_option linter.unusedVariables false
variable {lo : Nat → Prop} {gg g1 gs1 b : Nat} {p : Option Addr} {sd u1 u2 : Int} {f1 f2 : KF} {w : World}
/-- Behind k steps of a Move. -/
structure MV (lo : Nat → Prop) (gg g1 gs1 : Nat) (p : Option Addr) (sd : Int) (b : Nat) (u1 : Int) (f1 : KF) (u2 : Int) (f2 : KF) (w : World) (k : Int) (w' : World) : Prop where
  ex : ∃ f1' f2', GM lo gg g1 gs1 p sd b (u1 + k) f1' (u2 - k) f2' w' ∧ GS b (u1 + k) f1' (u2 - k) f2' ∧ cat f1' f2' = cat f1 f2
  be : Fr lo w w'
set_option maxRecDepth 100000 in
set_option maxHeartbeats 4000000 in
theorem gl_move (h : GM lo gg g1 gs1 p sd b u1 f1 u2 f2 w) (S : GS b u1 f1 u2 f2) (n : Int) :
    Calls Try.prog 27 #[.pointer (some ⟨gg, 0, none⟩), .int .i64 n] w fun e w' => e = .returned (.int .i64 (min (max n 0) u2)) ∧ MV lo gg g1 gs1 p sd b u1 f1 u2 f2 w (min (max n 0) u2) w' := by
  have HG := Aside0.mk h
  have HS := Aside0.mk S
  clear h S
  go_enter Try.func27, Try.ntmps27
  go_wp2
  go_loopw [5, 6, 7, 8, 9] (fun v5 v6 v7 v8 v9 w' => ∃ j : Nat, v5 = .int .i64 j ∧ Aside0 ((j : Int) ≤ max n 0) ∧ Aside0 (MV lo gg g1 gs1 p sd b u1 f1 u2 f2 w j w')) (fun v5 _ _ _ _ _ => u2.toNat - (intOf v5).toNat)
  case atStart => exact ⟨0, rfl, ⟨by omega⟩, ⟨⟨f1, f2, by have := HG.out; simpa using this, by have := HS.out; simpa using this, rfl⟩, Fr.refl _ _⟩⟩
  case round =>
    obtain ⟨j, rfl, HJ, HV⟩ := hrel
    obtain ⟨f1', f2', hg, hs, hc⟩ := HV.out.ex
    have hr := hg.rng
    have hr0 := HG.out.rng
    by_cases hlt : (j : Int) < n
    · have d2 : decide ((j : Int) < n) = true := decide_eq_true hlt
      have HLT := Aside0.mk hlt
      have HL := Aside0.mk (gl_left hg)
      by_cases hz : 0 < u2 - (j : Int)
      · have d3 : decide (0 < u2 - (j : Int)) = true := decide_eq_true hz
        have d4 : decide ((j : Int) < u2) = true := decide_eq_true (by omega)
        have HA := Aside0.mk (any_calls hg hz)
        have HZ := Aside0.mk hz
        have HG1 := Aside0.mk hg
        have HS1 := Aside0.mk hs
        have HC1 := Aside0.mk hc
        have HR := Aside0.mk hr
        have HR0 := Aside0.mk hr0
        have DW := Aside0.mk (show wrap64 ((j : Int) + 1) = (j : Int) + 1 by unfold wrap64; omega)
        obtain ⟨_, _, x2, x3⟩ := hg.cells
        clear hlt hz hg hs hc hr hr0
        go_upto_region 3 with (go_at_call 19; refine HL.out.mono ?_; rintro e w1 ⟨rfl, hw⟩; have hw2 := hw.symm; subst hw2)
        go_upto_region 4 with (go_at_call 41; refine HA.out.mono ?_; rintro e w1 ⟨key, v, rfl, hk, hb⟩; have HK := Aside0.mk hk; have HG2 := Aside0.mk (HG1.out.below hb); have HB2 := Aside0.mk (HV.out.be.trans (Fr.of_below hb _)); clear hk hb x2 x3)
        obtain ⟨M1, M2, M3⟩ := HS1.out.move HK.out (by have := HZ.out; omega)
        have HM := Aside0.mk (And.intro M1 (And.intro M2 M3))
        have hks := HS1.out.k2 key v HK.out
        have HKS := Aside0.mk (show key.size ≤ 4611686018427387904 by omega)
        obtain ⟨_, _, x2, x3⟩ := HG2.out.cells
        clear M1 M2 M3 hks
        go_upto_region 5 with (go_at_call 40; refine (gm_get2 HG2.out key HKS.out (show getF f2' key = (v, true) by unfold getF; rw [HK.out])).mono ?_; rintro e w2 ⟨rfl, hb⟩; have HG3 := Aside0.mk (HG2.out.below hb); have HB3 := Aside0.mk (HB2.out.trans (Fr.of_below hb _)); clear hb x2 x3)
        obtain ⟨_, _, x2, x3⟩ := HG3.out.cells
        go_upto_region 6 with (go_at_call 38; refine (gm_del2 HG3.out key HKS.out (delF_some HK.out)).mono ?_; rintro e w3 ⟨rfl, hg, hb⟩; have HG4 := Aside0.mk hg; have HB4 := Aside0.mk (HB3.out.trans hb); clear hg hb x2 x3)
        obtain ⟨_, _, x2, x3⟩ := HG4.out.cells
        go_wp2_with (go_at_call 39; refine (gm_put1 HG4.out key v HKS.out HM.out.1).mono ?_; rintro e w4 ⟨rfl, hg, hb⟩; have HG5 := Aside0.mk hg; have HB5 := Aside0.mk (HB4.out.trans hb); clear hg hb x2 x3)
        have e1 : u1 + ((j + 1 : Nat) : Int) = u1 + (j : Int) + 1 := by omega
        have e2 : u2 - ((j + 1 : Nat) : Int) = u2 - (j : Int) - 1 := by omega
        refine ⟨⟨j + 1, by rw [DW.out]; rfl, ⟨by have := HLT.out; omega⟩, ⟨⟨_, _, by rw [e1, e2]; exact HG5.out, by rw [e1, e2]; exact HM.out.2.1, HM.out.2.2.trans HC1.out⟩, HB5.out⟩⟩, ?_⟩
        rw [DW.out]; simp only [intOf]; have := HZ.out; omega
      · have d3 : decide (0 < u2 - (j : Int)) = false := decide_eq_false hz
        have d4 : decide ((j : Int) < u2) = false := decide_eq_false (by omega)
        have e : min (max n 0) u2 = (j : Int) := by have := HJ.out; omega
        have HE := Aside0.mk e
        clear hlt hz hg hs hc hr hr0 e
        go_wp2_with (go_at_call 19; refine HL.out.mono ?_; rintro e w1 ⟨rfl, hw⟩; have hw2 := hw.symm; subst hw2)
        go_ret
        rw [HE.out]
        exact ⟨rfl, HV.out⟩
    · have d2 : decide ((j : Int) < n) = false := decide_eq_false hlt
      have e : min (max n 0) u2 = (j : Int) := by have := HJ.out; omega
      have HE := Aside0.mk e
      clear hlt hg hs hc hr hr0 e
      go_wp2
      go_ret
      rw [HE.out]
      exact ⟨rfl, HV.out⟩
end Go.Proofs.Ytmnikjhnomphmaa.La


namespace Go.Proofs.Ytmnikjhnomphmaa.La
open Go.RowKit Go.Proofs.Ytmnikjhnomphmaa.Zip Go.Proofs.YtmnikjhnomphmaaW.PrintWords Go.Proofs.YtmnikjhnomphmaaW.PrintLast Go.Proofs.YtmnikjhnomphmaaW.PrintMore Go.Proofs.Ytmnikjhnomphmaa.Q
set_option linter.unusedSimpArgs false
set_option linter.unusedVariables false
variable {lo : Nat → Prop} {gg g1 gs1 b : Nat} {p : Option Addr} {sd u1 u2 : Int} {f1 f2 : KF} {w : World}
theorem begun {w1 : World} (h : GM lo gg g1 gs1 p sd b u1 f1 u2 f2 w) (ht : TT (w.heap.size + 1) w.heap.size sd (b + 1) 0 (fun _ => none) w1) (hb : Below w.drew.heap.size w.drew w1) (hk : w1.heap[gg]? = some (.cells #[.int .u64 sd, .int .i64 (b : Int), .pointer (some ⟨g1, 0, none⟩), .pointer p] 64 (0, 0))) :
    (∃ g1' gs1', GM lo gg g1' gs1' (some ⟨g1, 0, none⟩) sd (b + 1) 0 (fun _ => none) u1 f1 (((w1.setCell ⟨gg, 1, none⟩ (.int .i64 ((b : Int) + 1))).setCell ⟨gg, 2, none⟩ (.pointer (some ⟨w.heap.size + 1, 0, none⟩))).setCell ⟨gg, 3, none⟩ (.pointer (some ⟨g1, 0, none⟩)))) ∧ Fr lo w (((w1.setCell ⟨gg, 1, none⟩ (.int .i64 ((b : Int) + 1))).setCell ⟨gg, 2, none⟩ (.pointer (some ⟨w.heap.size + 1, 0, none⟩))).setCell ⟨gg, 3, none⟩ (.pointer (some ⟨g1, 0, none⟩))) := by
  have k1 : (w1.setCell ⟨gg, 1, none⟩ (.int .i64 ((b : Int) + 1))).heap[gg]? = some (.cells #[.int .u64 sd, .int .i64 ((b : Int) + 1), .pointer (some ⟨g1, 0, none⟩), .pointer p] 64 (0, 0)) := blk_put hk 1 _ rfl
  have k2 : ((w1.setCell ⟨gg, 1, none⟩ (.int .i64 ((b : Int) + 1))).setCell ⟨gg, 2, none⟩ (.pointer (some ⟨w.heap.size + 1, 0, none⟩))).heap[gg]? = some (.cells #[.int .u64 sd, .int .i64 ((b : Int) + 1), .pointer (some ⟨w.heap.size + 1, 0, none⟩), .pointer p] 64 (0, 0)) := blk_put k1 2 _ rfl
  have k3 : (((w1.setCell ⟨gg, 1, none⟩ (.int .i64 ((b : Int) + 1))).setCell ⟨gg, 2, none⟩ (.pointer (some ⟨w.heap.size + 1, 0, none⟩))).setCell ⟨gg, 3, none⟩ (.pointer (some ⟨g1, 0, none⟩))).heap[gg]? = some (.cells #[.int .u64 sd, .int .i64 ((b : Int) + 1), .pointer (some ⟨w.heap.size + 1, 0, none⟩), .pointer (some ⟨g1, 0, none⟩)] 64 (0, 0)) := blk_put k2 3 _ rfl
  have F := ((((Fr.refl (fun q => q = gg) w1).set ⟨gg, 1, none⟩ (Or.inl rfl) (.int .i64 ((b : Int) + 1))).set ⟨gg, 2, none⟩ (Or.inl rfl) (.pointer (some ⟨w.heap.size + 1, 0, none⟩))).set ⟨gg, 3, none⟩ (Or.inl rfl) (.pointer (some ⟨g1, 0, none⟩)))
  have hg := blk_lt h.blk
  have hs := h.sep
  have h1 : g1 < w.heap.size ∧ gs1 < w.heap.size := by obtain ⟨l, ha, _⟩ := h.t1; exact ⟨blk_lt ha.hd, blk_lt ha.sl⟩
  have hz : w.drew.heap.size = w.heap.size := rfl
  refine ⟨⟨w.heap.size + 1, w.heap.size, ⟨by rw [k3, Int.natCast_add]; rfl, ht.fr F (by omega) (by omega), Or.inr ⟨g1, gs1, b, rfl, ⟨hs.2.1, hs.2.2.1⟩, by omega, ((h.t1.drew).below hb).fr F (by omega) (by omega)⟩, ⟨hs.1, h.top _ (by omega), h.top _ (by omega), by omega, by omega⟩, fun q hq => h.top q (by have := F.size; have := hb.size; omega)⟩⟩, ?_⟩
  exact (Fr.refl lo w).drew.trans ((Fr.of_below hb lo).trans (F.mono (fun q hq => by rw [hq]; exact hs.1)))
set_option maxRecDepth 100000 in
set_option maxHeartbeats 4000000 in
theorem gl_begin (h : GM lo gg g1 gs1 p sd b u1 f1 u2 f2 w) (h8 : b < 8) :
    Calls Try.prog 37 #[.pointer (some ⟨gg, 0, none⟩)] w fun e w' => e = .returned (.tuple #[]) ∧ (∃ g1' gs1', GM lo gg g1' gs1' (some ⟨g1, 0, none⟩) sd (b + 1) 0 (fun _ => none) u1 f1 w') ∧ Fr lo w w' := by
  have HG := Aside0.mk h
  have H8 := Aside0.mk h8
  have hnew := tt_new sd (b + 1) w.drew (by omega) (by omega)
  rw [Int.natCast_add, show ((1 : Nat) : Int) = 1 from rfl] at hnew
  have HN := Aside0.mk hnew
  clear hnew
  obtain ⟨x0, x1, x2, x3⟩ := h.cells
  have x0d : w.drew.cell? ⟨gg, 0, none⟩ = _ := x0
  have x1d : w.drew.cell? ⟨gg, 1, none⟩ = _ := x1
  have s1 : wrap64 ((b : Int) + 1) = (b : Int) + 1 := by unfold wrap64; omega
  have s2 : IntKind.i64.wrap ((b : Int) + 1) = (b : Int) + 1 := by rw [IntKind.wrap_i64]; omega
  have X := Aside0.mk (And.intro x1d (And.intro (show w.drew.cell? ⟨gg, 2, none⟩ = _ from x2) (show w.drew.cell? ⟨gg, 3, none⟩ = _ from x3)))
  clear h h8
  go_enter Try.func37, Try.ntmps37
  go_upto_region 0 with (fail)
  go_region_with (go_at_call 29; refine HN.out.mono ?_; rintro e w1 ⟨rfl, ht, hb⟩; have HT := Aside0.mk ht; have HB := Aside0.mk hb; clear ht hb x0 x1 x2 x3 x0d x1d)
  all_goals
    have y1 := pw_cell_below HB.out X.out.1
    have y2 := pw_cell_below HB.out X.out.2.1
    have y3 := pw_cell_below HB.out X.out.2.2
    have hblk := blk_below (show w.drew.heap[gg]? = _ from HG.out.blk) HB.out
    have z1 : w1.frozen? ⟨gg, 1, none⟩ = false := blk_frozen hblk 1
    have z2 : w1.frozen? ⟨gg, 2, none⟩ = false := blk_frozen hblk 2
    have z3 : w1.frozen? ⟨gg, 3, none⟩ = false := blk_frozen hblk 3
    have HBK := Aside0.mk hblk
    clear hblk
    go_wp2
    go_end0
    refine ⟨rfl, ?_⟩
    exact begun HG.out HT.out HB.out HBK.out
end Go.Proofs.Ytmnikjhnomphmaa.La


namespace Go.Proofs.Ytmnikjhnomphmaa.La
open Go.RowKit Go.Proofs.Ytmnikjhnomphmaa.Zip Go.Proofs.YtmnikjhnomphmaaW.PrintWords Go.Proofs.YtmnikjhnomphmaaW.PrintLast Go.Proofs.YtmnikjhnomphmaaW.PrintMore Go.Proofs.Ytmnikjhnomphmaa.Q
set_option linter.unusedSimpArgs false
set_option linter.unusedVariables false
/-- A Grow as one function from keys to values; how many keys it has, how many are left, its bits. -/
structure GG (lo : Nat → Prop) (gg : Nat) (sd : Int) (b : Nat) (us u2 : Int) (f : KF) (W : World) : Prop where
  b1 : 1 ≤ b
  ex : ∃ g1 gs1 p u1 f1 f2, GM lo gg g1 gs1 p sd b u1 f1 u2 f2 W ∧ GS b u1 f1 u2 f2 ∧ us = u1 + u2 ∧ f = cat f1 f2 ∧ 2 * u1 + 3 * u2 ≤ 2 * 2 ^ b
theorem GM.f2_none {lo : Nat → Prop} {gg g1 gs1 b : Nat} {p : Option Addr} {sd u1 : Int} {f1 f2 : KF} {W : World} (h : GM lo gg g1 gs1 p sd b u1 f1 0 f2 W) : f2 = fun _ => none := by
  rcases h.el with ⟨_, _, rfl⟩ | ⟨g2, gs2, b2, _, _, _, ⟨l, ht, hf⟩⟩
  · rfl
  · funext k
    cases e : f2 k with
    | none => rfl
    | some v =>
      obtain ⟨i, hi, hu, _⟩ := (hf.has k v).2 e
      have h1 := cnt_set l i zeroS hi
      have h2 := hf.us
      unfold bn at h1
      rw [if_pos hu] at h1
      have h3 : (if zeroS.f0 = true then 1 else 0 : Nat) = 0 := rfl
      omega
def Begs (b : Nat) (us u2 : Int) : Prop := u2 = 0 ∧ b < 8 ∧ 3 * 2 ^ b < 4 * (us + 1)
structure PutOut (b b' : Nat) (us u2 u2' : Int) (there : Bool) (e0 : Int) : Prop where
  no : e0 ≠ 0 → b' = b ∧ u2' = u2
  old : e0 = 0 → there = true → b' = b ∧ (u2' = max (u2 - 2) 0 ∨ u2' = max (u2 - 3) 0)
  beg : e0 = 0 → there = false → Begs b us u2 → b' = b + 1 ∧ u2' = max (us - 2) 0
  new : e0 = 0 → there = false → ¬ Begs b us u2 → b' = b ∧ u2' = max (u2 - 2) 0
variable {lo : Nat → Prop} {gg b : Nat} {sd us u2 : Int} {f : KF} {w : World}
def PutEnd (lo : Nat → Prop) (gg : Nat) (sd : Int) (b : Nat) (us u2 : Int) (f : KF) (key : ByteArray) (us' : Int) (f' : KF) (e0 : Int) (w w' : World) : Prop := (∃ b' u2', GG lo gg sd b' us' u2' f' w' ∧ PutOut b b' us u2 u2' (getF f key).2 e0) ∧ Fr lo w w'
theorem pow1 {b : Nat} (h : 1 ≤ b) : (2 : Int) ≤ 2 ^ b := by
  have := Nat.pow_le_pow_right (show 0 < 2 by omega) h
  have e : ((2 ^ b : Nat) : Int) = 2 ^ b := by simp
  rw [← e]; omega
theorem getF_is {f : KF} {key : ByteArray} {n : Int} {is : Bool} (h : getF f key = (n, is)) : (is = true → ∃ v, f key = some v) ∧ (is = false → f key = none) := by
  unfold getF at h
  cases e : f key with
  | none => rw [e] at h; cases h; exact ⟨fun h => Bool.noConfusion h, fun _ => rfl⟩
  | some v => rw [e] at h; cases h; exact ⟨fun _ => ⟨_, rfl⟩, fun h => Bool.noConfusion h⟩
theorem put_end {g1 gs1 : Nat} {p : Option Addr} {b' : Nat} {u1 u2' us' : Int} {f1 f2 f' : KF} {key : ByteArray} {w6 w7 : World} (hm : MV lo gg g1 gs1 p sd b' u1 f1 u2' f2 w6 (min (max 2 0) u2') w7) (hb : Fr lo w w6) (h1 : 1 ≤ b') (hc : 2 * (u1 + min (max 2 0) u2') + 3 * (u2' - min (max 2 0) u2') ≤ 2 * 2 ^ b') (hu : us' = u1 + u2') (hf : f' = cat f1 f2) (po : PutOut b b' us u2 (u2' - min (max 2 0) u2') (getF f key).2 0) : PutEnd lo gg sd b us u2 f key us' f' 0 w w7 := by
  obtain ⟨⟨f1', f2', k1, k2, k3⟩, k4⟩ := hm
  exact ⟨⟨b', _, ⟨h1, ⟨_, _, _, _, f1', f2', k1, k2, by omega, by rw [hf, k3], hc⟩⟩, po⟩, hb.trans k4⟩
theorem pow_up (b : Nat) : (2 : Int) ^ (b + 1) = 2 * 2 ^ b := by rw [Int.pow_succ]; omega
set_option maxRecDepth 100000 in
set_option maxHeartbeats 4000000 in
theorem gg_put_bad (h : GG lo gg sd b us u2 f w) (key : ByteArray) (v : Int) {e0 us' : Int} {f' : KF} (hb : key.size = 0 ∨ key.size > 33) (hp : putF 8 f us key v = (e0, us', f')) :
    Calls Try.prog 23 #[.pointer (some ⟨gg, 0, none⟩), .string key, .int .i64 v] w fun e w' => e = .returned (.int .i64 e0) ∧ PutEnd lo gg sd b us u2 f key us' f' e0 w w' := by
  have HGG := Aside0.mk h
  have ze := len0 (s := key)
  unfold putF at hp
  rw [if_pos hb] at hp
  cases hp
  by_cases hb0 : key.size = 0
  · rw [decide_eq_true hb0] at ze
    clear h hb0
    go_enter Try.func23, Try.ntmps23
    go_wp2
    go_ret
    exact ⟨rfl, ⟨b, u2, HGG.out, ⟨fun _ => ⟨rfl, rfl⟩, fun h => by omega, fun h => by omega, fun h => by omega⟩⟩, Fr.refl _ _⟩
  rw [decide_eq_false hb0] at ze
  have d1 : decide ((33 : Int) < (key.size : Int)) = true := decide_eq_true (by omega)
  have d1n : decide (33 < key.size) = true := decide_eq_true (by omega)
  clear h hb0 hb
  go_enter Try.func23, Try.ntmps23
  go_wp2
  go_ret
  exact ⟨rfl, ⟨b, u2, HGG.out, ⟨fun _ => ⟨rfl, rfl⟩, fun h => by omega, fun h => by omega, fun h => by omega⟩⟩, Fr.refl _ _⟩
end Go.Proofs.Ytmnikjhnomphmaa.La


namespace Go.Proofs.Ytmnikjhnomphmaa.La
open Go.RowKit Go.Proofs.Ytmnikjhnomphmaa.Zip Go.Proofs.YtmnikjhnomphmaaW.PrintWords Go.Proofs.YtmnikjhnomphmaaW.PrintLast Go.Proofs.YtmnikjhnomphmaaW.PrintMore Go.Proofs.Ytmnikjhnomphmaa.Q
set_option linter.unusedSimpArgs false
set_option linter.unusedVariables false
variable {lo : Nat → Prop} {gg b : Nat} {sd us u2 : Int} {f : KF} {w : World}
set_option maxRecDepth 100000 in
set_option maxHeartbeats 8000000 in
theorem put_old {g1 gs1 : Nat} {p : Option Addr} {u1 u2 : Int} {f1 f2 : KF} {key : ByteArray} {v e0 us' : Int} {f' : KF} (hG : GM lo gg g1 gs1 p sd b u1 f1 u2 f2 w) (hS : GS b u1 f1 u2 f2) (hcap : 2 * u1 + 3 * u2 ≤ 2 * 2 ^ b) (hb1' : 1 ≤ b) (hk : 1 ≤ key.size ∧ key.size ≤ 33) (hx : ∃ w0, cat f1 f2 key = some w0) (hp : putF 8 (cat f1 f2) (u1 + u2) key v = (e0, us', f')) :
    Calls Try.prog 23 #[.pointer (some ⟨gg, 0, none⟩), .string key, .int .i64 v] w fun e w' => e = .returned (.int .i64 e0) ∧ PutEnd lo gg sd b (u1 + u2) u2 (cat f1 f2) key us' f' e0 w w' := by
  have ze := len0 (s := key)
  rw [decide_eq_false (by omega)] at ze
  have d1 : decide ((33 : Int) < (key.size : Int)) = false := decide_eq_false (by omega)
  have d1n : decide (33 < key.size) = false := decide_eq_false (by omega)
  have HKS := Aside0.mk (show (1 ≤ key.size ∧ key.size ≤ 33) ∧ key.size ≤ 4611686018427387904 by omega)
  have HG := Aside0.mk hG
  have HS := Aside0.mk hS
  have HCAP := Aside0.mk (And.intro hcap hb1')
  have HR := Aside0.mk hG.rng
  have HP1 := Aside0.mk (pow1 hb1')
  have HP8 := Aside0.mk (pow_le8 hG.rng.2.2.2.1)
  have e8 : (2 : Int) ^ 8 = 256 := by decide
  obtain ⟨w0, hw0⟩ := hx
  have hget : getF (cat f1 f2) key = (w0, true) := by unfold getF; rw [hw0]
  have HGET := Aside0.mk hget
  have HIS := Aside0.mk (show ∃ w0, cat f1 f2 key = some w0 from ⟨w0, hw0⟩)
  rw [putF_old hk hw0] at hp
  cases hp
  clear hw0 hget
  clear hG hS hcap hb1' hk e8
  go_enter Try.func23, Try.ntmps23
  go_upto_region 6 with (go_at_call 26; refine (gl_get HG.out key HKS.out.2 HGET.out).mono ?_; rintro e w1 ⟨rfl, hg, hb⟩; have HG1 := Aside0.mk hg; have HB1 := Aside0.mk (Fr.of_below hb lo); clear hg hb)
  clear d1 d1n ze
  have HRM := Aside0.mk (show f1 key = none → f2 key = none → u1 + u2 < 2 ^ b from fun h1 h2 => by
    obtain ⟨w0, hw0⟩ := HIS.out
    rw [cat_right h1, h2] at hw0; cases hw0)
  go_upto_region 11 with (fail)
  obtain ⟨d, u2', f2', hd⟩ : ∃ d u2' f2', delF f2 u2 key = (d, u2', f2') := ⟨_, _, _, rfl⟩
  have HD := Aside0.mk hd
  obtain ⟨_, _, x2, x3⟩ := HG1.out.cells
  clear hd
  go_upto_region 12 with (go_at_call 38; refine (gm_del2 HG1.out key HKS.out.2 HD.out).mono ?_; rintro e w5 ⟨rfl, hg, hb⟩; have HG5 := Aside0.mk hg; have HB5 := Aside0.mk (HB1.out.trans hb); clear hg hb x2 x3)
  obtain ⟨u1', f1', hpt, hst, hct, hcase⟩ := HS.out.put (v := v) HKS.out.1 HD.out HG5.out.rng.2.1 HRM.out
  have HPT := Aside0.mk hpt
  have HST := Aside0.mk hst
  have HCT := Aside0.mk hct
  have HCASE := Aside0.mk hcase
  obtain ⟨_, _, x2, x3⟩ := HG5.out.cells
  clear hpt hst hct hcase
  go_upto_region 13 with (go_at_call 39; refine (gm_put1 HG5.out key v HKS.out.2 HPT.out).mono ?_; rintro e w6 ⟨rfl, hg, hb⟩; have HG6 := Aside0.mk hg; have HB6 := Aside0.mk (HB5.out.trans hb); clear hg hb x2 x3)
  go_wp2_with (go_at_call 27; refine (gl_move HG6.out HST.out 2).mono ?_; rintro e w7 ⟨rfl, hm⟩; have HM7 := Aside0.mk hm; clear hm)
  go_ret
  have hr6 := HG6.out.rng
  have hr := HR.out
  have hcap := HCAP.out
  have hp1 := HP1.out
  rcases HCASE.out with ⟨_, c1, c2⟩ | ⟨c1, _, _⟩
  · refine ⟨rfl, put_end HM7.out HB6.out hcap.2 (by omega) (by omega) HCT.out.symm ⟨fun h => absurd rfl h, fun _ _ => ⟨rfl, by omega⟩, fun _ h => ?_, fun _ h => ?_⟩⟩
    · rw [HGET.out] at h; cases h
    · rw [HGET.out] at h; cases h
  · obtain ⟨w0, hw0⟩ := HIS.out; rw [hw0] at c1; cases c1
end Go.Proofs.Ytmnikjhnomphmaa.La


namespace Go.Proofs.Ytmnikjhnomphmaa.La
open Go.RowKit Go.Proofs.Ytmnikjhnomphmaa.Zip Go.Proofs.YtmnikjhnomphmaaW.PrintWords Go.Proofs.YtmnikjhnomphmaaW.PrintLast Go.Proofs.YtmnikjhnomphmaaW.PrintMore Go.Proofs.Ytmnikjhnomphmaa.Q
set_option linter.unusedSimpArgs false
set_option linter.unusedVariables false
variable {lo : Nat → Prop} {gg b : Nat} {sd us u2 : Int} {f : KF} {w : World}
set_option maxRecDepth 100000 in
set_option maxHeartbeats 8000000 in
theorem put_full {g1 gs1 : Nat} {p : Option Addr} {u1 u2 : Int} {f1 f2 : KF} {key : ByteArray} {v e0 us' : Int} {f' : KF} (hG : GM lo gg g1 gs1 p sd b u1 f1 u2 f2 w) (hS : GS b u1 f1 u2 f2) (hcap : 2 * u1 + 3 * u2 ≤ 2 * 2 ^ b) (hb1' : 1 ≤ b) (hk : 1 ≤ key.size ∧ key.size ≤ 33) (hx : cat f1 f2 key = none) (hful : u1 + u2 = 256) (hp : putF 8 (cat f1 f2) (u1 + u2) key v = (e0, us', f')) :
    Calls Try.prog 23 #[.pointer (some ⟨gg, 0, none⟩), .string key, .int .i64 v] w fun e w' => e = .returned (.int .i64 e0) ∧ PutEnd lo gg sd b (u1 + u2) u2 (cat f1 f2) key us' f' e0 w w' := by
  have ze := len0 (s := key)
  rw [decide_eq_false (by omega)] at ze
  have d1 : decide ((33 : Int) < (key.size : Int)) = false := decide_eq_false (by omega)
  have d1n : decide (33 < key.size) = false := decide_eq_false (by omega)
  have HKS := Aside0.mk (show (1 ≤ key.size ∧ key.size ≤ 33) ∧ key.size ≤ 4611686018427387904 by omega)
  have HG := Aside0.mk hG
  have HS := Aside0.mk hS
  have HCAP := Aside0.mk (And.intro hcap hb1')
  have HR := Aside0.mk hG.rng
  have HP1 := Aside0.mk (pow1 hb1')
  have HP8 := Aside0.mk (pow_le8 hG.rng.2.2.2.1)
  have e8 : (2 : Int) ^ 8 = 256 := by decide
  have hget : getF (cat f1 f2) key = (0, false) := by unfold getF; rw [hx]
  have HGET := Aside0.mk hget
  have HNO := Aside0.mk hx
  clear hget
  unfold putF at hp
  rw [if_neg (by omega), hx] at hp
  simp only [if_pos (show u1 + u2 = 2 ^ 8 by rw [e8]; exact hful)] at hp
  cases hp
  clear hG hS hcap hb1' hk e8
  go_enter Try.func23, Try.ntmps23
  go_upto_region 6 with (go_at_call 26; refine (gl_get HG.out key HKS.out.2 HGET.out).mono ?_; rintro e w1 ⟨rfl, hg, hb⟩; have HG1 := Aside0.mk hg; have HB1 := Aside0.mk (Fr.of_below hb lo); clear hg hb)
  clear d1 d1n ze
  go_upto_region 7 with (fail)
  have d2 : ((u1 + u2) == 256) = true := by simpa using hful
  clear hful
  go_wp2_with (go_at_call 15; refine (gl_len HG1.out HS.out).mono ?_; rintro e w2 ⟨rfl, hg, hb⟩; have HG2 := Aside0.mk hg; have HB2 := Aside0.mk (HB1.out.trans (Fr.of_below hb lo)); clear hg hb)
  go_ret
  exact ⟨rfl, ⟨b, u2, ⟨HCAP.out.2, ⟨_, _, _, _, _, _, HG2.out, HS.out, rfl, rfl, HCAP.out.1⟩⟩, ⟨fun _ => ⟨rfl, rfl⟩, fun h => by omega, fun h => by omega, fun h => by omega⟩⟩, HB2.out⟩
end Go.Proofs.Ytmnikjhnomphmaa.La


namespace Go.Proofs.Ytmnikjhnomphmaa.La
open Go.RowKit Go.Proofs.Ytmnikjhnomphmaa.Zip Go.Proofs.YtmnikjhnomphmaaW.PrintWords Go.Proofs.YtmnikjhnomphmaaW.PrintLast Go.Proofs.YtmnikjhnomphmaaW.PrintMore Go.Proofs.Ytmnikjhnomphmaa.Q
set_option linter.unusedSimpArgs false
set_option linter.unusedVariables false
variable {lo : Nat → Prop} {gg b : Nat} {sd us u2 : Int} {f : KF} {w : World}
set_option maxRecDepth 100000 in
set_option maxHeartbeats 8000000 in
theorem put_left {g1 gs1 : Nat} {p : Option Addr} {u1 u2 : Int} {f1 f2 : KF} {key : ByteArray} {v e0 us' : Int} {f' : KF} (hG : GM lo gg g1 gs1 p sd b u1 f1 u2 f2 w) (hS : GS b u1 f1 u2 f2) (hcap : 2 * u1 + 3 * u2 ≤ 2 * 2 ^ b) (hb1' : 1 ≤ b) (hk : 1 ≤ key.size ∧ key.size ≤ 33) (hx : cat f1 f2 key = none) (hful : ¬ u1 + u2 = 256) (hl : ¬ u2 = 0) (hp : putF 8 (cat f1 f2) (u1 + u2) key v = (e0, us', f')) :
    Calls Try.prog 23 #[.pointer (some ⟨gg, 0, none⟩), .string key, .int .i64 v] w fun e w' => e = .returned (.int .i64 e0) ∧ PutEnd lo gg sd b (u1 + u2) u2 (cat f1 f2) key us' f' e0 w w' := by
  have ze := len0 (s := key)
  rw [decide_eq_false (by omega)] at ze
  have d1 : decide ((33 : Int) < (key.size : Int)) = false := decide_eq_false (by omega)
  have d1n : decide (33 < key.size) = false := decide_eq_false (by omega)
  have HKS := Aside0.mk (show (1 ≤ key.size ∧ key.size ≤ 33) ∧ key.size ≤ 4611686018427387904 by omega)
  have HG := Aside0.mk hG
  have HS := Aside0.mk hS
  have HCAP := Aside0.mk (And.intro hcap hb1')
  have HR := Aside0.mk hG.rng
  have HP1 := Aside0.mk (pow1 hb1')
  have HP8 := Aside0.mk (pow_le8 hG.rng.2.2.2.1)
  have e8 : (2 : Int) ^ 8 = 256 := by decide
  have hget : getF (cat f1 f2) key = (0, false) := by unfold getF; rw [hx]
  have HGET := Aside0.mk hget
  have HNO := Aside0.mk hx
  clear hget
  rw [putF_new hk hx (by rw [e8]; exact hful)] at hp
  cases hp
  have HFUL := Aside0.mk hful
  clear hG hS hcap hb1' hk e8
  go_enter Try.func23, Try.ntmps23
  go_upto_region 6 with (go_at_call 26; refine (gl_get HG.out key HKS.out.2 HGET.out).mono ?_; rintro e w1 ⟨rfl, hg, hb⟩; have HG1 := Aside0.mk hg; have HB1 := Aside0.mk (Fr.of_below hb lo); clear hg hb)
  clear d1 d1n ze
  go_upto_region 7 with (fail)
  have d2 : ((u1 + u2) == 256) = false := by have := HFUL.out; simpa using this
  clear hful
  go_upto_region 9 with (go_at_call 15; refine (gl_len HG1.out HS.out).mono ?_; rintro e w2 ⟨rfl, hg, hb⟩; have HG2 := Aside0.mk hg; have HB2 := Aside0.mk (HB1.out.trans (Fr.of_below hb lo)); clear hg hb)
  clear d2
  have HL1 := Aside0.mk (gl_left HG2.out.drew)
  have HB2d := Aside0.mk (HB2.out.trans (Fr.of_below (below_drew (Below.refl _ _)) lo))
  have d3 : (u2 == 0) = false := by simpa using hl
  have d3p := eq_false hl
  have d3d : decide (u2 = 0) = false := decide_eq_false hl
  have HNB := Aside0.mk (show ¬ Begs b (u1 + u2) u2 from fun h => hl h.1)
  have HRM2 := Aside0.mk (show u1 + u2 < 2 ^ b by have := HCAP.out.1; have := HR.out; omega)
  have HG3 := Aside0.mk HG2.out.drew
  have HB3 := HB2d
  clear hl
  refine wp_region_any (by kernel_rfl) ?_
  try (change wpAny _ _ _ _ _ _ _ (World.drew _))
  refine wpAny_take (i := 0) (v := ?_) rfl (by kernel_rfl) (by kernel_rfl) (by kernel_rfl) (fun _ _ _ h => h) (Or.inl ⟨by kernel_rfl, ?_⟩) ?_
  rotate_left
  · intro w; go_simp <;> with_reducible rfl
  refine wpAny_ready (rs := [1]) (by kernel_rfl) (by simp) ?_
  refine AllReady.cons rfl (fun K hK => ?_) AllReady.nil
  go_simp
  go_wp2_with (go_at_call 19; refine HL1.out.mono ?_; rintro e w3 ⟨rfl, hw⟩; have hw2 := hw.symm; subst hw2)
  refine wpAny_take (i := 2) (v := ?_) rfl (by kernel_rfl) (by kernel_rfl) (by kernel_rfl) (fun _ _ _ h => h) (Or.inl ⟨by kernel_rfl, ?_⟩) ?_
  rotate_left
  · intro w; go_simp <;> with_reducible rfl
  refine wpAny_take (i := 3) (v := ?_) rfl (by kernel_rfl) (by kernel_rfl) (by kernel_rfl) (fun _ _ _ h => h) (Or.inl ⟨by kernel_rfl, ?_⟩) ?_
  rotate_left
  · intro w; go_simp <;> with_reducible rfl
  refine wpAny_take (i := 4) (v := undef) rfl (by kernel_rfl) (by kernel_rfl) (by kernel_rfl) (fun _ _ _ h => h) (Or.inr ⟨by kernel_rfl, rfl⟩) ?_
  refine wpAny_take (i := 5) (v := undef) rfl (by kernel_rfl) (by kernel_rfl) (by kernel_rfl) (fun _ _ _ h => h) (Or.inr ⟨by kernel_rfl, rfl⟩) ?_
  refine wpAny_take (i := 6) (v := undef) rfl (by kernel_rfl) (by kernel_rfl) (by kernel_rfl) (fun _ _ _ h => h) (Or.inr ⟨by kernel_rfl, rfl⟩) ?_
  refine wpAny_take (i := 7) (v := undef) rfl (by kernel_rfl) (by kernel_rfl) (by kernel_rfl) (fun _ _ _ h => h) (Or.inr ⟨by kernel_rfl, rfl⟩) ?_
  refine wpAny_take (i := 8) (v := undef) rfl (by kernel_rfl) (by kernel_rfl) (by kernel_rfl) (fun _ _ _ h => h) (Or.inr ⟨by kernel_rfl, rfl⟩) ?_
  refine wpAny_take (i := 9) (v := ?_) rfl (by kernel_rfl) (by kernel_rfl) (by kernel_rfl) (fun _ _ _ h => h) (Or.inl ⟨by kernel_rfl, ?_⟩) ?_
  rotate_left
  · intro w; go_simp <;> with_reducible rfl
  refine wpAny_take (i := 10) (v := ?_) rfl (by kernel_rfl) (by kernel_rfl) (by kernel_rfl) (fun _ _ _ h => h) (Or.inl ⟨by kernel_rfl, ?_⟩) ?_
  rotate_left
  · intro w; go_simp <;> with_reducible rfl
  refine wpAny_take (i := 11) (v := undef) rfl (by kernel_rfl) (by kernel_rfl) (by kernel_rfl) (fun _ _ _ h => h) (Or.inr ⟨by kernel_rfl, rfl⟩) ?_
  refine wpAny_take (i := 12) (v := undef) rfl (by kernel_rfl) (by kernel_rfl) (by kernel_rfl) (fun _ _ _ h => h) (Or.inr ⟨by kernel_rfl, rfl⟩) ?_
  refine wpAny_take (i := 13) (v := undef) rfl (by kernel_rfl) (by kernel_rfl) (by kernel_rfl) (fun _ _ _ h => h) (Or.inr ⟨by kernel_rfl, rfl⟩) ?_
  refine wpAny_take (i := 14) (v := undef) rfl (by kernel_rfl) (by kernel_rfl) (by kernel_rfl) (fun _ _ _ h => h) (Or.inr ⟨by kernel_rfl, rfl⟩) ?_
  refine wpAny_take (i := 15) (v := undef) rfl (by kernel_rfl) (by kernel_rfl) (by kernel_rfl) (fun _ _ _ h => h) (Or.inr ⟨by kernel_rfl, rfl⟩) ?_
  refine wpAny_take (i := 16) (v := undef) rfl (by kernel_rfl) (by kernel_rfl) (by kernel_rfl) (fun _ _ _ h => h) (Or.inr ⟨by kernel_rfl, rfl⟩) ?_
  refine wpAny_take (i := 17) (v := undef) rfl (by kernel_rfl) (by kernel_rfl) (by kernel_rfl) (fun _ _ _ h => h) (Or.inr ⟨by kernel_rfl, rfl⟩) ?_
  refine wpAny_take (i := 18) (v := undef) rfl (by kernel_rfl) (by kernel_rfl) (by kernel_rfl) (fun _ _ _ h => h) (Or.inr ⟨by kernel_rfl, rfl⟩) ?_
  refine wpAny_take (i := 19) (v := undef) rfl (by kernel_rfl) (by kernel_rfl) (by kernel_rfl) (fun _ _ _ h => h) (Or.inr ⟨by kernel_rfl, rfl⟩) ?_
  refine wpAny_take (i := 20) (v := undef) rfl (by kernel_rfl) (by kernel_rfl) (by kernel_rfl) (fun _ _ _ h => h) (Or.inr ⟨by kernel_rfl, rfl⟩) ?_
  refine wpAny_take (i := 21) (v := ?_) rfl (by kernel_rfl) (by kernel_rfl) (by kernel_rfl) (fun _ _ _ h => h) (Or.inl ⟨by kernel_rfl, ?_⟩) ?_
  rotate_left
  · intro w; go_simp <;> with_reducible rfl
  refine wpAny_done (by kernel_rfl) ?_ _
  go_simp
  all_goals
    go_upto_region 11 with (fail)
    clear d3 d3p d3d
    obtain ⟨d, u2', f2', hd⟩ : ∃ d u2' f2', delF f2 u2 key = (d, u2', f2') := ⟨_, _, _, rfl⟩
    have HD := Aside0.mk hd
    obtain ⟨_, _, x2, x3⟩ := HG3.out.cells
    clear hd
    go_upto_region 12 with (go_at_call 38; refine (gm_del2 HG3.out key HKS.out.2 HD.out).mono ?_; rintro e w5 ⟨rfl, hg, hb⟩; have HG5 := Aside0.mk hg; have HB5 := Aside0.mk (HB3.out.trans hb); clear hg hb x2 x3)
    obtain ⟨u1', f1', hpt, hst, hct, hcase⟩ := HS.out.put (v := v) HKS.out.1 HD.out HG5.out.rng.2.1 (fun _ _ => HRM2.out)
    have HPT := Aside0.mk hpt
    have HST := Aside0.mk hst
    have HCT := Aside0.mk hct
    have HCASE := Aside0.mk hcase
    obtain ⟨_, _, x2, x3⟩ := HG5.out.cells
    clear hpt hst hct hcase
    go_upto_region 13 with (go_at_call 39; refine (gm_put1 HG5.out key v HKS.out.2 HPT.out).mono ?_; rintro e w6 ⟨rfl, hg, hb⟩; have HG6 := Aside0.mk hg; have HB6 := Aside0.mk (HB5.out.trans hb); clear hg hb x2 x3)
    go_wp2_with (go_at_call 27; refine (gl_move HG6.out HST.out 2).mono ?_; rintro e w7 ⟨rfl, hm⟩; have HM7 := Aside0.mk hm; clear hm)
    go_ret
    have hr6 := HG6.out.rng
    have hr := HR.out
    have hcap := HCAP.out
    have hp1 := HP1.out
    rcases HCASE.out with ⟨⟨w0, hw0⟩, _⟩ | ⟨_, c1, c2⟩
    · rw [HNO.out] at hw0; cases hw0
    · have hnb := HNB.out
      have hcp : 2 * (u1' + min (max 2 0) u2') + 3 * (u2' - min (max 2 0) u2') ≤ 2 * 2 ^ b := by
        have e := HRM2.out
        omega
      refine ⟨rfl, put_end HM7.out HB6.out hcap.2 hcp (by omega) HCT.out.symm ⟨fun h => absurd rfl h, fun _ h => ?_, fun _ _ h => absurd h hnb, fun _ _ _ => ⟨rfl, by omega⟩⟩⟩
      rw [HGET.out] at h; cases h
end Go.Proofs.Ytmnikjhnomphmaa.La


namespace Go.Proofs.Ytmnikjhnomphmaa.La
open Go.RowKit Go.Proofs.Ytmnikjhnomphmaa.Zip Go.Proofs.YtmnikjhnomphmaaW.PrintWords Go.Proofs.YtmnikjhnomphmaaW.PrintLast Go.Proofs.YtmnikjhnomphmaaW.PrintMore Go.Proofs.Ytmnikjhnomphmaa.Q
set_option linter.unusedSimpArgs false
set_option linter.unusedVariables false
variable {lo : Nat → Prop} {gg b : Nat} {sd us u2 : Int} {f : KF} {w : World}
set_option maxRecDepth 100000 in
set_option maxHeartbeats 8000000 in
theorem put_eight {g1 gs1 : Nat} {p : Option Addr} {u1 : Int} {f1 f2 : KF} {key : ByteArray} {v e0 us' : Int} {f' : KF} (hG : GM lo gg g1 gs1 p sd b u1 f1 (0 : Int) f2 w) (hS : GS b u1 f1 (0 : Int) f2) (hcap : 2 * u1 + 3 * (0 : Int) ≤ 2 * 2 ^ b) (hb1' : 1 ≤ b) (hk : 1 ≤ key.size ∧ key.size ≤ 33) (hx : cat f1 f2 key = none) (hful : ¬ u1 + 0 = 256) (h8 : ¬ b < 8) (hp : putF 8 (cat f1 f2) (u1 + (0 : Int)) key v = (e0, us', f')) :
    Calls Try.prog 23 #[.pointer (some ⟨gg, 0, none⟩), .string key, .int .i64 v] w fun e w' => e = .returned (.int .i64 e0) ∧ PutEnd lo gg sd b (u1 + (0 : Int)) (0 : Int) (cat f1 f2) key us' f' e0 w w' := by
  have ze := len0 (s := key)
  rw [decide_eq_false (by omega)] at ze
  have d1 : decide ((33 : Int) < (key.size : Int)) = false := decide_eq_false (by omega)
  have d1n : decide (33 < key.size) = false := decide_eq_false (by omega)
  have HKS := Aside0.mk (show (1 ≤ key.size ∧ key.size ≤ 33) ∧ key.size ≤ 4611686018427387904 by omega)
  have HG := Aside0.mk hG
  have HS := Aside0.mk hS
  have HCAP := Aside0.mk (And.intro hcap hb1')
  have HR := Aside0.mk hG.rng
  have HP1 := Aside0.mk (pow1 hb1')
  have HP8 := Aside0.mk (pow_le8 hG.rng.2.2.2.1)
  have e8 : (2 : Int) ^ 8 = 256 := by decide
  have hget : getF (cat f1 f2) key = (0, false) := by unfold getF; rw [hx]
  have HGET := Aside0.mk hget
  have HNO := Aside0.mk hx
  clear hget
  rw [putF_new hk hx (by rw [e8]; exact hful)] at hp
  cases hp
  have HFUL := Aside0.mk hful
  clear hG hS hcap hb1' hk e8
  go_enter Try.func23, Try.ntmps23
  go_upto_region 6 with (go_at_call 26; refine (gl_get HG.out key HKS.out.2 HGET.out).mono ?_; rintro e w1 ⟨rfl, hg, hb⟩; have HG1 := Aside0.mk hg; have HB1 := Aside0.mk (Fr.of_below hb lo); clear hg hb)
  clear d1 d1n ze
  simp only [Int.add_zero] at hful
  go_upto_region 7 with (fail)
  have d2 : (u1 == 256) = false := by have := HFUL.out; simpa using this
  clear hful
  go_upto_region 9 with (go_at_call 15; refine (gl_len HG1.out HS.out).mono ?_; rintro e w2 ⟨rfl, hg, hb⟩; have HG2 := Aside0.mk hg; have HB2 := Aside0.mk (HB1.out.trans (Fr.of_below hb lo)); clear hg hb)
  clear d2
  have HL1 := Aside0.mk (gl_left HG2.out.drew)
  have HB2d := Aside0.mk (HB2.out.trans (Fr.of_below (below_drew (Below.refl _ _)) lo))
  obtain ⟨_, x1, _, _⟩ := HG2.out.cells
  have x1d : w2.drew.cell? ⟨gg, 1, none⟩ = _ := x1
  have d3 : ((0 : Int) == 0) = true := rfl
  have d4 : decide ((b : Int) < 8) = false := decide_eq_false (by omega)
  have d4n : decide (b < 8) = false := decide_eq_false h8
  have HNB := Aside0.mk (show ¬ Begs b (u1 + 0) 0 from fun h => h8 h.2.1)
  have HRM2 := Aside0.mk (show u1 + 0 < 2 ^ b by
    have := HR.out
    have := HFUL.out
    obtain rfl : b = 8 := by omega
    have e8 : (2 : Int) ^ 8 = 256 := by decide
    omega)
  have HG3 := Aside0.mk HG2.out.drew
  have HB3 := HB2d
  clear h8
  refine wp_region_any (by kernel_rfl) ?_
  try (change wpAny _ _ _ _ _ _ _ (World.drew _))
  refine wpAny_take (i := 0) (v := ?_) rfl (by kernel_rfl) (by kernel_rfl) (by kernel_rfl) (fun _ _ _ h => h) (Or.inl ⟨by kernel_rfl, ?_⟩) ?_
  rotate_left
  · intro w; go_simp <;> with_reducible rfl
  refine wpAny_ready (rs := [1]) (by kernel_rfl) (by simp) ?_
  refine AllReady.cons rfl (fun K hK => ?_) AllReady.nil
  go_simp
  go_wp2_with (go_at_call 19; refine HL1.out.mono ?_; rintro e w3 ⟨rfl, hw⟩; have hw2 := hw.symm; subst hw2)
  refine wpAny_take (i := 2) (v := ?_) rfl (by kernel_rfl) (by kernel_rfl) (by kernel_rfl) (fun _ _ _ h => h) (Or.inl ⟨by kernel_rfl, ?_⟩) ?_
  rotate_left
  · intro w; go_simp <;> with_reducible rfl
  refine wpAny_take (i := 3) (v := ?_) rfl (by kernel_rfl) (by kernel_rfl) (by kernel_rfl) (fun _ _ _ h => h) (Or.inl ⟨by kernel_rfl, ?_⟩) ?_
  rotate_left
  · intro w; go_simp <;> with_reducible rfl
  refine wpAny_take (i := 4) (v := ?_) rfl (by kernel_rfl) (by kernel_rfl) (by kernel_rfl) (fun _ _ _ h => h) (Or.inl ⟨by kernel_rfl, ?_⟩) ?_
  rotate_left
  · intro w; go_simp <;> with_reducible rfl
  refine wpAny_take (i := 5) (v := ?_) rfl (by kernel_rfl) (by kernel_rfl) (by kernel_rfl) (fun _ _ _ h => h) (Or.inl ⟨by kernel_rfl, ?_⟩) ?_
  rotate_left
  · intro w; go_simp <;> with_reducible rfl
  refine wpAny_take (i := 6) (v := ?_) rfl (by kernel_rfl) (by kernel_rfl) (by kernel_rfl) (fun _ _ _ h => h) (Or.inl ⟨by kernel_rfl, ?_⟩) ?_
  rotate_left
  · intro w; go_simp <;> with_reducible rfl
  refine wpAny_ready (rs := [7]) (by kernel_rfl) (by simp) ?_
  refine AllReady.cons rfl (fun K hK => ?_) AllReady.nil
  go_simp
  refine hK _ _ ?_; clear hK K
  refine wpAny_take (i := 8) (v := ?_) rfl (by kernel_rfl) (by kernel_rfl) (by kernel_rfl) (fun _ _ _ h => h) (Or.inl ⟨by kernel_rfl, ?_⟩) ?_
  rotate_left
  · intro w; go_simp <;> with_reducible rfl
  refine wpAny_take (i := 9) (v := ?_) rfl (by kernel_rfl) (by kernel_rfl) (by kernel_rfl) (fun _ _ _ h => h) (Or.inl ⟨by kernel_rfl, ?_⟩) ?_
  rotate_left
  · intro w; go_simp <;> with_reducible rfl
  refine wpAny_take (i := 10) (v := ?_) rfl (by kernel_rfl) (by kernel_rfl) (by kernel_rfl) (fun _ _ _ h => h) (Or.inl ⟨by kernel_rfl, ?_⟩) ?_
  rotate_left
  · intro w; go_simp <;> with_reducible rfl
  refine wpAny_take (i := 11) (v := undef) rfl (by kernel_rfl) (by kernel_rfl) (by kernel_rfl) (fun _ _ _ h => h) (Or.inr ⟨by kernel_rfl, rfl⟩) ?_
  refine wpAny_take (i := 12) (v := undef) rfl (by kernel_rfl) (by kernel_rfl) (by kernel_rfl) (fun _ _ _ h => h) (Or.inr ⟨by kernel_rfl, rfl⟩) ?_
  refine wpAny_take (i := 13) (v := undef) rfl (by kernel_rfl) (by kernel_rfl) (by kernel_rfl) (fun _ _ _ h => h) (Or.inr ⟨by kernel_rfl, rfl⟩) ?_
  refine wpAny_take (i := 14) (v := undef) rfl (by kernel_rfl) (by kernel_rfl) (by kernel_rfl) (fun _ _ _ h => h) (Or.inr ⟨by kernel_rfl, rfl⟩) ?_
  refine wpAny_take (i := 15) (v := undef) rfl (by kernel_rfl) (by kernel_rfl) (by kernel_rfl) (fun _ _ _ h => h) (Or.inr ⟨by kernel_rfl, rfl⟩) ?_
  refine wpAny_take (i := 16) (v := undef) rfl (by kernel_rfl) (by kernel_rfl) (by kernel_rfl) (fun _ _ _ h => h) (Or.inr ⟨by kernel_rfl, rfl⟩) ?_
  refine wpAny_take (i := 17) (v := undef) rfl (by kernel_rfl) (by kernel_rfl) (by kernel_rfl) (fun _ _ _ h => h) (Or.inr ⟨by kernel_rfl, rfl⟩) ?_
  refine wpAny_take (i := 18) (v := undef) rfl (by kernel_rfl) (by kernel_rfl) (by kernel_rfl) (fun _ _ _ h => h) (Or.inr ⟨by kernel_rfl, rfl⟩) ?_
  refine wpAny_take (i := 19) (v := undef) rfl (by kernel_rfl) (by kernel_rfl) (by kernel_rfl) (fun _ _ _ h => h) (Or.inr ⟨by kernel_rfl, rfl⟩) ?_
  refine wpAny_take (i := 20) (v := undef) rfl (by kernel_rfl) (by kernel_rfl) (by kernel_rfl) (fun _ _ _ h => h) (Or.inr ⟨by kernel_rfl, rfl⟩) ?_
  refine wpAny_take (i := 21) (v := ?_) rfl (by kernel_rfl) (by kernel_rfl) (by kernel_rfl) (fun _ _ _ h => h) (Or.inl ⟨by kernel_rfl, ?_⟩) ?_
  rotate_left
  · intro w; go_simp <;> with_reducible rfl
  refine wpAny_done (by kernel_rfl) ?_ _
  go_simp
  all_goals
    go_upto_region 11 with (fail)
    clear x1 x1d d3 d4 d4n
    obtain ⟨d, u2', f2', hd⟩ : ∃ d u2' f2', delF f2 (0 : Int) key = (d, u2', f2') := ⟨_, _, _, rfl⟩
    have HD := Aside0.mk hd
    obtain ⟨_, _, x2, x3⟩ := HG3.out.cells
    clear hd
    go_upto_region 12 with (go_at_call 38; refine (gm_del2 HG3.out key HKS.out.2 HD.out).mono ?_; rintro e w5 ⟨rfl, hg, hb⟩; have HG5 := Aside0.mk hg; have HB5 := Aside0.mk (HB3.out.trans hb); clear hg hb x2 x3)
    obtain ⟨u1', f1', hpt, hst, hct, hcase⟩ := HS.out.put (v := v) HKS.out.1 HD.out HG5.out.rng.2.1 (fun _ _ => HRM2.out)
    have HPT := Aside0.mk hpt
    have HST := Aside0.mk hst
    have HCT := Aside0.mk hct
    have HCASE := Aside0.mk hcase
    obtain ⟨_, _, x2, x3⟩ := HG5.out.cells
    clear hpt hst hct hcase
    go_upto_region 13 with (go_at_call 39; refine (gm_put1 HG5.out key v HKS.out.2 HPT.out).mono ?_; rintro e w6 ⟨rfl, hg, hb⟩; have HG6 := Aside0.mk hg; have HB6 := Aside0.mk (HB5.out.trans hb); clear hg hb x2 x3)
    go_wp2_with (go_at_call 27; refine (gl_move HG6.out HST.out 2).mono ?_; rintro e w7 ⟨rfl, hm⟩; have HM7 := Aside0.mk hm; clear hm)
    go_ret
    have hr6 := HG6.out.rng
    have hr := HR.out
    have hcap := HCAP.out
    have hp1 := HP1.out
    rcases HCASE.out with ⟨⟨w0, hw0⟩, _⟩ | ⟨_, c1, c2⟩
    · rw [HNO.out] at hw0; cases hw0
    · have hnb := HNB.out
      have hcp : 2 * (u1' + min (max 2 0) u2') + 3 * (u2' - min (max 2 0) u2') ≤ 2 * 2 ^ b := by
        have e := HRM2.out
        omega
      refine ⟨rfl, put_end HM7.out HB6.out hcap.2 hcp (by omega) HCT.out.symm ⟨fun h => absurd rfl h, fun _ h => ?_, fun _ _ h => absurd h hnb, fun _ _ _ => ⟨rfl, by omega⟩⟩⟩
      rw [HGET.out] at h; cases h
end Go.Proofs.Ytmnikjhnomphmaa.La


namespace Go.Proofs.Ytmnikjhnomphmaa.La
open Go.RowKit Go.Proofs.Ytmnikjhnomphmaa.Zip Go.Proofs.YtmnikjhnomphmaaW.PrintWords Go.Proofs.YtmnikjhnomphmaaW.PrintLast Go.Proofs.YtmnikjhnomphmaaW.PrintMore Go.Proofs.Ytmnikjhnomphmaa.Q
set_option linter.unusedSimpArgs false
set_option linter.unusedVariables false
variable {lo : Nat → Prop} {gg b : Nat} {sd us u2 : Int} {f : KF} {w : World}
set_option maxRecDepth 100000 in
set_option maxHeartbeats 8000000 in
theorem put_room {g1 gs1 : Nat} {p : Option Addr} {u1 : Int} {f1 f2 : KF} {key : ByteArray} {v e0 us' : Int} {f' : KF} (hG : GM lo gg g1 gs1 p sd b u1 f1 (0 : Int) f2 w) (hS : GS b u1 f1 (0 : Int) f2) (hcap : 2 * u1 + 3 * (0 : Int) ≤ 2 * 2 ^ b) (hb1' : 1 ≤ b) (hk : 1 ≤ key.size ∧ key.size ≤ 33) (hx : cat f1 f2 key = none) (hful : ¬ u1 + 0 = 256) (h8 : b < 8) (hbg : ¬ 3 * (2 : Int) ^ b < 4 * (u1 + 1)) (hp : putF 8 (cat f1 f2) (u1 + (0 : Int)) key v = (e0, us', f')) :
    Calls Try.prog 23 #[.pointer (some ⟨gg, 0, none⟩), .string key, .int .i64 v] w fun e w' => e = .returned (.int .i64 e0) ∧ PutEnd lo gg sd b (u1 + (0 : Int)) (0 : Int) (cat f1 f2) key us' f' e0 w w' := by
  have HBGN := Aside0.mk hbg
  clear hbg
  have ze := len0 (s := key)
  rw [decide_eq_false (by omega)] at ze
  have d1 : decide ((33 : Int) < (key.size : Int)) = false := decide_eq_false (by omega)
  have d1n : decide (33 < key.size) = false := decide_eq_false (by omega)
  have HKS := Aside0.mk (show (1 ≤ key.size ∧ key.size ≤ 33) ∧ key.size ≤ 4611686018427387904 by omega)
  have HG := Aside0.mk hG
  have HS := Aside0.mk hS
  have HCAP := Aside0.mk (And.intro hcap hb1')
  have HR := Aside0.mk hG.rng
  have HP1 := Aside0.mk (pow1 hb1')
  have HP8 := Aside0.mk (pow_le8 hG.rng.2.2.2.1)
  have e8 : (2 : Int) ^ 8 = 256 := by decide
  have hget : getF (cat f1 f2) key = (0, false) := by unfold getF; rw [hx]
  have HGET := Aside0.mk hget
  have HNO := Aside0.mk hx
  clear hget
  rw [putF_new hk hx (by rw [e8]; exact hful)] at hp
  cases hp
  have HFUL := Aside0.mk hful
  clear hG hS hcap hb1' hk e8
  go_enter Try.func23, Try.ntmps23
  go_upto_region 6 with (go_at_call 26; refine (gl_get HG.out key HKS.out.2 HGET.out).mono ?_; rintro e w1 ⟨rfl, hg, hb⟩; have HG1 := Aside0.mk hg; have HB1 := Aside0.mk (Fr.of_below hb lo); clear hg hb)
  clear d1 d1n ze
  simp only [Int.add_zero] at hful
  go_upto_region 7 with (fail)
  have d2 : (u1 == 256) = false := by have := HFUL.out; simpa using this
  clear hful
  go_upto_region 9 with (go_at_call 15; refine (gl_len HG1.out HS.out).mono ?_; rintro e w2 ⟨rfl, hg, hb⟩; have HG2 := Aside0.mk hg; have HB2 := Aside0.mk (HB1.out.trans (Fr.of_below hb lo)); clear hg hb)
  clear d2
  have HL1 := Aside0.mk (gl_left HG2.out.drew)
  have HB2d := Aside0.mk (HB2.out.trans (Fr.of_below (below_drew (Below.refl _ _)) lo))
  obtain ⟨_, x1, _, _⟩ := HG2.out.cells
  have x1d : w2.drew.cell? ⟨gg, 1, none⟩ = _ := x1
  have d3 : ((0 : Int) == 0) = true := rfl
  have d4 : decide ((b : Int) < 8) = true := decide_eq_true (by omega)
  have d4n : decide (b < 8) = true := decide_eq_true h8
  have HL2 := Aside0.mk (gl_len HG2.out.drew HS.out)
  have X1 := Aside0.mk x1d
  have s1 : IntKind.i64.wrap (u1 + 1) = u1 + 1 := by have := HR.out; have := HP8.out; rw [IntKind.wrap_i64]; omega
  have s2 : IntKind.i64.wrap (4 * (u1 + 1)) = 4 * (u1 + 1) := by have := HR.out; have := HP8.out; rw [IntKind.wrap_i64]; omega
  have s3 : IntKind.i64.wrap (3 * 2 ^ b) = 3 * 2 ^ b := by have := HP1.out; have := HP8.out; rw [IntKind.wrap_i64]; omega
  have m64 : min b 64 = b := by omega
  have s4 : IntKind.i64.wrap (3 * 2 ^ min b 64) = 3 * 2 ^ b := by rw [m64]; exact s3
  have d5 : decide (3 * (2 : Int) ^ b < 4 * (u1 + 1)) = false := decide_eq_false (by have := HBGN.out; omega)
  have p5 := eq_false (show ¬ 3 * (2 : Int) ^ b < 4 * (u1 + 1) by have := HBGN.out; omega)
  have HNB := Aside0.mk (show ¬ Begs b (u1 + 0) 0 from fun h => by have := h.2.2; have := HBGN.out; omega)
  have HRM2 := Aside0.mk (show u1 + 0 < 2 ^ b by have := HP1.out; have := HBGN.out; omega)
  clear h8
  go_region_with (first | (go_at_call 19; refine HL1.out.mono ?_; rintro e w3 ⟨rfl, hw⟩; have hw2 := hw.symm; subst hw2) | (go_at_call 15; refine HL2.out.mono ?_; rintro e w3 ⟨rfl, hg, hb⟩; have HG3 := Aside0.mk hg; have HB3 := Aside0.mk (HB2d.out.trans (Fr.of_below hb lo)); clear x1 x1d; have x1 := pw_cell_below hb X1.out; clear hg hb))
  all_goals
    go_upto_region 11 with (fail)
    clear x1 d3 d4 d4n d5 p5 s1 s2 s3 s4 m64
    obtain ⟨d, u2', f2', hd⟩ : ∃ d u2' f2', delF f2 (0 : Int) key = (d, u2', f2') := ⟨_, _, _, rfl⟩
    have HD := Aside0.mk hd
    obtain ⟨_, _, x2, x3⟩ := HG3.out.cells
    clear hd
    go_upto_region 12 with (go_at_call 38; refine (gm_del2 HG3.out key HKS.out.2 HD.out).mono ?_; rintro e w5 ⟨rfl, hg, hb⟩; have HG5 := Aside0.mk hg; have HB5 := Aside0.mk (HB3.out.trans hb); clear hg hb x2 x3)
    obtain ⟨u1', f1', hpt, hst, hct, hcase⟩ := HS.out.put (v := v) HKS.out.1 HD.out HG5.out.rng.2.1 (fun _ _ => HRM2.out)
    have HPT := Aside0.mk hpt
    have HST := Aside0.mk hst
    have HCT := Aside0.mk hct
    have HCASE := Aside0.mk hcase
    obtain ⟨_, _, x2, x3⟩ := HG5.out.cells
    clear hpt hst hct hcase
    go_upto_region 13 with (go_at_call 39; refine (gm_put1 HG5.out key v HKS.out.2 HPT.out).mono ?_; rintro e w6 ⟨rfl, hg, hb⟩; have HG6 := Aside0.mk hg; have HB6 := Aside0.mk (HB5.out.trans hb); clear hg hb x2 x3)
    go_wp2_with (go_at_call 27; refine (gl_move HG6.out HST.out 2).mono ?_; rintro e w7 ⟨rfl, hm⟩; have HM7 := Aside0.mk hm; clear hm)
    go_ret
    have hr6 := HG6.out.rng
    have hr := HR.out
    have hcap := HCAP.out
    have hp1 := HP1.out
    rcases HCASE.out with ⟨⟨w0, hw0⟩, _⟩ | ⟨_, c1, c2⟩
    · rw [HNO.out] at hw0; cases hw0
    · have hnb := HNB.out
      have hcp : 2 * (u1' + min (max 2 0) u2') + 3 * (u2' - min (max 2 0) u2') ≤ 2 * 2 ^ b := by
        have e := HRM2.out
        omega
      refine ⟨rfl, put_end HM7.out HB6.out hcap.2 hcp (by omega) HCT.out.symm ⟨fun h => absurd rfl h, fun _ h => ?_, fun _ _ h => absurd h hnb, fun _ _ _ => ⟨rfl, by omega⟩⟩⟩
      rw [HGET.out] at h; cases h
end Go.Proofs.Ytmnikjhnomphmaa.La


namespace Go.Proofs.Ytmnikjhnomphmaa.La
open Go.RowKit Go.Proofs.Ytmnikjhnomphmaa.Zip Go.Proofs.YtmnikjhnomphmaaW.PrintWords Go.Proofs.YtmnikjhnomphmaaW.PrintLast Go.Proofs.YtmnikjhnomphmaaW.PrintMore Go.Proofs.Ytmnikjhnomphmaa.Q
set_option linter.unusedSimpArgs false
set_option linter.unusedVariables false
variable {lo : Nat → Prop} {gg b : Nat} {sd us u2 : Int} {f : KF} {w : World}
set_option maxRecDepth 100000 in
set_option maxHeartbeats 8000000 in
theorem put_begs {g1 gs1 : Nat} {p : Option Addr} {u1 : Int} {f1 f2 : KF} {key : ByteArray} {v e0 us' : Int} {f' : KF} (hG : GM lo gg g1 gs1 p sd b u1 f1 (0 : Int) f2 w) (hS : GS b u1 f1 (0 : Int) f2) (hcap : 2 * u1 + 3 * (0 : Int) ≤ 2 * 2 ^ b) (hb1' : 1 ≤ b) (hk : 1 ≤ key.size ∧ key.size ≤ 33) (hx : cat f1 f2 key = none) (hful : ¬ u1 + 0 = 256) (h8 : b < 8) (hbg : 3 * (2 : Int) ^ b < 4 * (u1 + 1)) (hp : putF 8 (cat f1 f2) (u1 + (0 : Int)) key v = (e0, us', f')) :
    Calls Try.prog 23 #[.pointer (some ⟨gg, 0, none⟩), .string key, .int .i64 v] w fun e w' => e = .returned (.int .i64 e0) ∧ PutEnd lo gg sd b (u1 + (0 : Int)) (0 : Int) (cat f1 f2) key us' f' e0 w w' := by
  have ze := len0 (s := key)
  rw [decide_eq_false (by omega)] at ze
  have d1 : decide ((33 : Int) < (key.size : Int)) = false := decide_eq_false (by omega)
  have d1n : decide (33 < key.size) = false := decide_eq_false (by omega)
  have HKS := Aside0.mk (show (1 ≤ key.size ∧ key.size ≤ 33) ∧ key.size ≤ 4611686018427387904 by omega)
  have HG := Aside0.mk hG
  have HS := Aside0.mk hS
  have HCAP := Aside0.mk (And.intro hcap hb1')
  have HR := Aside0.mk hG.rng
  have HP1 := Aside0.mk (pow1 hb1')
  have HP8 := Aside0.mk (pow_le8 hG.rng.2.2.2.1)
  have e8 : (2 : Int) ^ 8 = 256 := by decide
  have HF20 := Aside0.mk hG.f2_none
  have HBGN := Aside0.mk hbg
  clear hbg
  have hget : getF (cat f1 f2) key = (0, false) := by unfold getF; rw [hx]
  have HGET := Aside0.mk hget
  have HNO := Aside0.mk hx
  clear hget
  rw [putF_new hk hx (by rw [e8]; exact hful)] at hp
  cases hp
  have HFUL := Aside0.mk hful
  clear hG hS hcap hb1' hk e8
  go_enter Try.func23, Try.ntmps23
  go_upto_region 6 with (go_at_call 26; refine (gl_get HG.out key HKS.out.2 HGET.out).mono ?_; rintro e w1 ⟨rfl, hg, hb⟩; have HG1 := Aside0.mk hg; have HB1 := Aside0.mk (Fr.of_below hb lo); clear hg hb)
  clear d1 d1n ze
  simp only [Int.add_zero] at hful
  go_upto_region 7 with (fail)
  have d2 : (u1 == 256) = false := by have := HFUL.out; simpa using this
  clear hful
  go_upto_region 9 with (go_at_call 15; refine (gl_len HG1.out HS.out).mono ?_; rintro e w2 ⟨rfl, hg, hb⟩; have HG2 := Aside0.mk hg; have HB2 := Aside0.mk (HB1.out.trans (Fr.of_below hb lo)); clear hg hb)
  clear d2
  have HL1 := Aside0.mk (gl_left HG2.out.drew)
  have HB2d := Aside0.mk (HB2.out.trans (Fr.of_below (below_drew (Below.refl _ _)) lo))
  obtain ⟨_, x1, _, _⟩ := HG2.out.cells
  have x1d : w2.drew.cell? ⟨gg, 1, none⟩ = _ := x1
  have d3 : ((0 : Int) == 0) = true := rfl
  have d4 : decide ((b : Int) < 8) = true := decide_eq_true (by omega)
  have d4n : decide (b < 8) = true := decide_eq_true h8
  have HL2 := Aside0.mk (gl_len HG2.out.drew HS.out)
  have X1 := Aside0.mk x1d
  have s1 : IntKind.i64.wrap (u1 + 1) = u1 + 1 := by have := HR.out; have := HP8.out; rw [IntKind.wrap_i64]; omega
  have s2 : IntKind.i64.wrap (4 * (u1 + 1)) = 4 * (u1 + 1) := by have := HR.out; have := HP8.out; rw [IntKind.wrap_i64]; omega
  have s3 : IntKind.i64.wrap (3 * 2 ^ b) = 3 * 2 ^ b := by have := HP1.out; have := HP8.out; rw [IntKind.wrap_i64]; omega
  have m64 : min b 64 = b := by omega
  have s4 : IntKind.i64.wrap (3 * 2 ^ min b 64) = 3 * 2 ^ b := by rw [m64]; exact s3
  have d5 : decide (3 * (2 : Int) ^ b < 4 * (u1 + 1)) = true := decide_eq_true HBGN.out
  have p5 := eq_true (show 3 * (2 : Int) ^ b < 4 * (u1 + 1) from HBGN.out)
  have HBG := Aside0.mk (show Begs b (u1 + 0) 0 from ⟨rfl, h8, by have := HBGN.out; omega⟩)
  have H8 := Aside0.mk h8
  have HS4 := Aside0.mk (show GS (b + 1) 0 (fun _ => none) u1 f1 from ⟨fun k => Or.inl rfl, KeyOk.none, HS.out.k1, by have := HS.out.sum; have := pow_up b; have := HP1.out; omega⟩)
  have HRM := Aside0.mk (show (0 : Int) + u1 < 2 ^ (b + 1) from by have := HS.out.sum; have := pow_up b; have := HP1.out; omega)
  clear h8
  go_region_with (first | (go_at_call 19; refine HL1.out.mono ?_; rintro e w3 ⟨rfl, hw⟩; have hw2 := hw.symm; subst hw2) | (go_at_call 15; refine HL2.out.mono ?_; rintro e w3 ⟨rfl, hg, hb⟩; have HG3 := Aside0.mk hg; have HB3 := Aside0.mk (HB2d.out.trans (Fr.of_below hb lo)); clear x1 x1d; have x1 := pw_cell_below hb X1.out; clear hg hb))
  all_goals
    go_upto_region 11 with (go_at_call 37; refine (gl_begin HG3.out H8.out).mono ?_; rintro e w4 ⟨rfl, ⟨g1', gs1', hg⟩, hb⟩; have HG4 := Aside0.mk hg; have HB4 := Aside0.mk (HB3.out.trans hb); clear hg hb)
    clear x1 d3 d4 d4n d5 p5 s1 s2 s3 s4 m64
    obtain ⟨d, u2', f2', hd⟩ : ∃ d u2' f2', delF f1 u1 key = (d, u2', f2') := ⟨_, _, _, rfl⟩
    have HD := Aside0.mk hd
    obtain ⟨_, _, x2, x3⟩ := HG4.out.cells
    clear hd
    go_upto_region 12 with (go_at_call 38; refine (gm_del2 HG4.out key HKS.out.2 HD.out).mono ?_; rintro e w5 ⟨rfl, hg, hb⟩; have HG5 := Aside0.mk hg; have HB5 := Aside0.mk (HB4.out.trans hb); clear hg hb x2 x3)
    obtain ⟨u1', f1', hpt, hst, hct, hcase⟩ := HS4.out.put (v := v) HKS.out.1 HD.out HG5.out.rng.2.1 (fun _ _ => HRM.out)
    have HPT := Aside0.mk hpt
    have HST := Aside0.mk hst
    have HCT := Aside0.mk hct
    have HCASE := Aside0.mk hcase
    obtain ⟨_, _, x2, x3⟩ := HG5.out.cells
    clear hpt hst hct hcase
    go_upto_region 13 with (go_at_call 39; refine (gm_put1 HG5.out key v HKS.out.2 HPT.out).mono ?_; rintro e w6 ⟨rfl, hg, hb⟩; have HG6 := Aside0.mk hg; have HB6 := Aside0.mk (HB5.out.trans hb); clear hg hb x2 x3)
    go_wp2_with (go_at_call 27; refine (gl_move HG6.out HST.out 2).mono ?_; rintro e w7 ⟨rfl, hm⟩; have HM7 := Aside0.mk hm; clear hm)
    go_ret
    have hr6 := HG6.out.rng
    have hr := HR.out
    have hcap := HCAP.out
    have hp1 := HP1.out
    rcases HCASE.out with ⟨⟨w0, hw0⟩, _⟩ | ⟨_, c1, c2⟩
    · rw [nil_cat] at hw0; have := HNO.out; rw [HF20.out, cat_nil] at this; rw [this] at hw0; cases hw0
    · have hpu := pow_up b
      have hcp : 2 * (u1' + min (max 2 0) u2') + 3 * (u2' - min (max 2 0) u2') ≤ 2 * 2 ^ (b + 1) := by rw [hpu]; omega
      refine ⟨rfl, put_end HM7.out HB6.out (by omega) hcp (by omega) (by rw [HCT.out, nil_cat, HF20.out, cat_nil]) ⟨fun h => absurd rfl h, fun _ h => ?_, fun _ _ _ => ⟨rfl, by omega⟩, fun _ _ h => absurd HBG.out h⟩⟩
      rw [HGET.out] at h; cases h
end Go.Proofs.Ytmnikjhnomphmaa.La


namespace Go.Proofs.Ytmnikjhnomphmaa.La
open Go.RowKit Go.Proofs.Ytmnikjhnomphmaa.Zip Go.Proofs.YtmnikjhnomphmaaW.PrintWords Go.Proofs.YtmnikjhnomphmaaW.PrintLast Go.Proofs.YtmnikjhnomphmaaW.PrintMore Go.Proofs.Ytmnikjhnomphmaa.Q
set_option linter.unusedSimpArgs false
set_option linter.unusedVariables false
variable {lo : Nat → Prop} {gg b : Nat} {sd us u2 : Int} {f : KF} {w W W' : World}
theorem GG.below (h : GG lo gg sd b us u2 f W) (hb : Below W.heap.size W W') : GG lo gg sd b us u2 f W' := by
  obtain ⟨h1, g1, gs1, p, u1, f1, f2, k1, k2, k3, k4, k5⟩ := h
  exact ⟨h1, g1, gs1, p, u1, f1, f2, k1.below hb, k2, k3, k4, k5⟩
theorem GG.keep {S2 S' : Nat → Prop} (h : GG lo gg sd b us u2 f W) (F : Fr S2 W W') (d1 : ∀ q, lo q → q < W.heap.size → ¬ S2 q) (d2 : ∀ q, lo q → q < W.heap.size → S' q) (d3 : ∀ q, W'.heap.size ≤ q → S' q) : GG S' gg sd b us u2 f W' := by
  obtain ⟨h1, g1, gs1, p, u1, f1, f2, k1, k2, k3, k4, k5⟩ := h
  exact ⟨h1, g1, gs1, p, u1, f1, f2, k1.keep F d1 d2 d3, k2, k3, k4, k5⟩
theorem GG.drew (h : GG lo gg sd b us u2 f W) : GG lo gg sd b us u2 f W.drew := h.below (below_drew (Below.refl _ _))
theorem GG.top (h : GG lo gg sd b us u2 f W) : ∀ q, W.heap.size ≤ q → lo q := by
  obtain ⟨h1, g1, gs1, p, u1, f1, f2, k1, _⟩ := h; exact k1.top
theorem GG.size {n0 : Nat} (h : GG (fun q => n0 ≤ q) gg sd b us u2 f W) : n0 ≤ W.heap.size := h.top _ (Nat.le_refl _)
theorem GG.rng (h : GG lo gg sd b us u2 f W) : 1 ≤ b ∧ b ≤ 8 ∧ 0 ≤ u2 ∧ u2 ≤ us ∧ us ≤ 2 ^ b := by
  obtain ⟨h1, g1, gs1, p, u1, f1, f2, k1, k2, k3, k4, k5⟩ := h
  have := k1.rng
  exact ⟨h1, this.2.2.2.1, this.2.1, by omega, by omega⟩
theorem GG.ko (h : GG lo gg sd b us u2 f W) : KeyOk f := by
  obtain ⟨h1, g1, gs1, p, u1, f1, f2, k1, k2, k3, rfl, k5⟩ := h
  intro q v hq
  unfold cat at hq
  cases e : f1 q with
  | some w => rw [e] at hq; cases hq; exact k2.k1 q _ e
  | none => rw [e] at hq; exact k2.k2 q _ hq
theorem gg_new (lo : Nat → Prop) (sd : Int) (b : Nat) (w : World) (hlo : ∀ q, w.heap.size ≤ q → lo q) (h0 : 1 ≤ b) (h1 : b ≤ 8) : Calls Try.prog 12 #[.int .u64 sd, .int .i64 (b : Int)] w fun e w' => ∃ gg, e = .returned (.tuple #[.pointer (some ⟨gg, 0, none⟩), .int .i64 0]) ∧ GG lo gg sd b 0 0 (fun _ => none) w' ∧ Below w.heap.size w w' := by
  refine (gl_new lo sd b w hlo h0 h1).mono ?_
  rintro e w' ⟨gg, g1, gs1, rfl, hg, hb⟩
  refine ⟨gg, rfl, ⟨h0, g1, gs1, none, 0, _, _, hg, GS.zero b, rfl, (cat_nil _).symm, ?_⟩, hb⟩
  have := pow1 h0
  omega
theorem gg_get (h : GG lo gg sd b us u2 f w) (key : ByteArray) (hk : key.size ≤ 4611686018427387904) {n : Int} {is : Bool} (hp : getF f key = (n, is)) :
    Calls Try.prog 26 #[.pointer (some ⟨gg, 0, none⟩), .string key] w fun e w' => e = .returned (.tuple #[.int .i64 n, .bool is]) ∧ GG lo gg sd b us u2 f w' ∧ Below w.heap.size w w' := by
  have hh := h
  obtain ⟨h1, g1, gs1, p, u1, f1, f2, k1, k2, k3, rfl, k5⟩ := h
  refine (gl_get k1 key hk hp).mono ?_
  rintro e w' ⟨rfl, _, hb⟩
  exact ⟨rfl, hh.below hb, hb⟩
theorem gg_left (h : GG lo gg sd b us u2 f w) : Calls Try.prog 19 #[.pointer (some ⟨gg, 0, none⟩)] w fun e w' => e = .returned (.int .i64 u2) ∧ w' = w := by
  obtain ⟨h1, g1, gs1, p, u1, f1, f2, k1, k2, k3, rfl, k5⟩ := h
  exact gl_left k1
theorem gg_bits (h : GG lo gg sd b us u2 f w) : Calls Try.prog 20 #[.pointer (some ⟨gg, 0, none⟩)] w fun e w' => e = .returned (.int .i64 (b : Int)) ∧ w' = w := by
  obtain ⟨h1, g1, gs1, p, u1, f1, f2, k1, k2, k3, rfl, k5⟩ := h
  exact gl_bits k1
theorem gg_len (h : GG lo gg sd b us u2 f w) : Calls Try.prog 15 #[.pointer (some ⟨gg, 0, none⟩)] w fun e w' => e = .returned (.int .i64 us) ∧ GG lo gg sd b us u2 f w' ∧ Below w.heap.size w w' := by
  have hh := h
  obtain ⟨h1, g1, gs1, p, u1, f1, f2, k1, k2, rfl, rfl, k5⟩ := h
  refine (gl_len k1 k2).mono ?_
  rintro e w' ⟨rfl, _, hb⟩
  exact ⟨rfl, hh.below hb, hb⟩
theorem gg_keys (h : GG lo gg sd b us u2 f w) : ∃ ks, KeysIn f us ks ∧ Calls Try.prog 17 #[.pointer (some ⟨gg, 0, none⟩)] w fun e w' => ∃ v, e = .returned v ∧ Kd.R Kd.string 9 w' w.heap.size (fun _ => True) v ks ∧ Below w.heap.size w w' := by
  obtain ⟨h1, g1, gs1, p, u1, f1, f2, k1, k2, rfl, rfl, k5⟩ := h
  exact gl_keys k1 k2
theorem gg_del (h : GG lo gg sd b us u2 f w) (key : ByteArray) (hk : key.size ≤ 4611686018427387904) {e0 : Bool} {us' : Int} {f' : KF} (hp : delF f us key = (e0, us', f')) :
    Calls Try.prog 25 #[.pointer (some ⟨gg, 0, none⟩), .string key] w fun e w' => e = .returned (.bool e0) ∧ (∃ u2', GG lo gg sd b us' u2' f' w' ∧ u2' ≤ u2 ∧ u2 - 1 ≤ u2') ∧ Fr lo w w' := by
  obtain ⟨h1, g1, gs1, p, u1, f1, f2, k1, k2, rfl, rfl, k5⟩ := h
  refine (gl_del k1 k2 key hk hp).mono ?_
  rintro e w' ⟨rfl, ⟨u1', f1', u2', f2', m1, m2, m3, m4, m5, m6, m7⟩, hb⟩
  exact ⟨rfl, ⟨u2', ⟨h1, g1, gs1, p, u1', f1', f2', m1, m2, m3, m4, by omega⟩, m6, m7⟩, hb⟩
theorem gg_move (h : GG lo gg sd b us u2 f w) (n : Int) :
    Calls Try.prog 27 #[.pointer (some ⟨gg, 0, none⟩), .int .i64 n] w fun e w' => e = .returned (.int .i64 (min (max n 0) u2)) ∧ GG lo gg sd b us (u2 - min (max n 0) u2) f w' ∧ Fr lo w w' := by
  obtain ⟨h1, g1, gs1, p, u1, f1, f2, k1, k2, rfl, rfl, k5⟩ := h
  have hr := k1.rng
  refine (gl_move k1 k2 n).mono ?_
  rintro e w' ⟨rfl, ⟨f1', f2', m1, m2, m3⟩, hb⟩
  exact ⟨rfl, ⟨h1, g1, gs1, p, _, f1', f2', m1, m2, by omega, m3.symm, by omega⟩, hb⟩
end Go.Proofs.Ytmnikjhnomphmaa.La


namespace Go.Proofs.Ytmnikjhnomphmaa.La
open Go.RowKit Go.Proofs.Ytmnikjhnomphmaa.Zip Go.Proofs.YtmnikjhnomphmaaW.PrintWords Go.Proofs.YtmnikjhnomphmaaW.PrintLast Go.Proofs.YtmnikjhnomphmaaW.PrintMore Go.Proofs.Ytmnikjhnomphmaa.Q
set_option linter.unusedSimpArgs false
set_option linter.unusedVariables false
variable {lo : Nat → Prop} {gg b : Nat} {sd us u2 : Int} {f : KF} {w W W' : World}
theorem gg_put (h : GG lo gg sd b us u2 f w) (key : ByteArray) (v : Int) {e0 us' : Int} {f' : KF} (hp : putF 8 f us key v = (e0, us', f')) :
    Calls Try.prog 23 #[.pointer (some ⟨gg, 0, none⟩), .string key, .int .i64 v] w fun e w' => e = .returned (.int .i64 e0) ∧ PutEnd lo gg sd b us u2 f key us' f' e0 w w' := by
  by_cases hb : key.size = 0 ∨ key.size > 33
  · exact gg_put_bad h key v hb hp
  obtain ⟨h1, g1, gs1, p, u1, f1, f2, k1, k2, rfl, rfl, k5⟩ := h
  have hk : 1 ≤ key.size ∧ key.size ≤ 33 := by omega
  cases hx : cat f1 f2 key with
  | some w0 => exact put_old k1 k2 k5 h1 hk ⟨w0, hx⟩ hp
  | none =>
    by_cases hful : u1 + u2 = 256
    · exact put_full k1 k2 k5 h1 hk hx hful hp
    by_cases hl : u2 = 0
    · subst hl
      by_cases h8 : b < 8
      · by_cases hbg : 3 * (2 : Int) ^ b < 4 * (u1 + 1)
        · exact put_begs k1 k2 k5 h1 hk hx hful h8 hbg hp
        · exact put_room k1 k2 k5 h1 hk hx hful h8 hbg hp
      · exact put_eight k1 k2 k5 h1 hk hx hful h8 hp
    · exact put_left k1 k2 k5 h1 hk hx hful hl hp
end Go.Proofs.Ytmnikjhnomphmaa.La


namespace Go.Proofs.Ytmnikjhnomphmaa.La
open Go.RowKit Go.Proofs.Ytmnikjhnomphmaa.Zip Go.Proofs.YtmnikjhnomphmaaW.PrintWords Go.Proofs.YtmnikjhnomphmaaW.PrintLast Go.Proofs.YtmnikjhnomphmaaW.PrintMore Go.Proofs.Ytmnikjhnomphmaa.Q
set_option linter.unusedSimpArgs false
set_option linter.unusedVariables false
theorem GG.alloc {lo : Nat → Prop} {gg b : Nat} {sd us u2 : Int} {f : KF} {W : World} (h : GG lo gg sd b us u2 f W) (c : Obj) : GG lo gg sd b us u2 f (W.alloc c) := h.below ((Below.refl _ _).alloc (Nat.le_refl _) _)
theorem pe_new {lo : Nat → Prop} {gg b : Nat} {sd us u2 us' : Int} {f f' : KF} {key : ByteArray} {w w' : World} (h : PutEnd lo gg sd b us u2 f key us' f' 0 w w') (hn : (getF f key).2 = false) (hb : ¬ Begs b us u2) : GG lo gg sd b us' (max (u2 - 2) 0) f' w' := by
  obtain ⟨⟨b', u2', h1, h2⟩, _⟩ := h
  obtain ⟨rfl, rfl⟩ := h2.new rfl hn hb
  exact h1
theorem pe_beg {lo : Nat → Prop} {gg b : Nat} {sd us u2 us' : Int} {f f' : KF} {key : ByteArray} {w w' : World} (h : PutEnd lo gg sd b us u2 f key us' f' 0 w w') (hn : (getF f key).2 = false) (hb : Begs b us u2) : GG lo gg sd (b + 1) us' (max (us - 2) 0) f' w' := by
  obtain ⟨⟨b', u2', h1, h2⟩, _⟩ := h
  obtain ⟨rfl, rfl⟩ := h2.beg rfl hn hb
  exact h1
theorem pe_no {lo : Nat → Prop} {gg b : Nat} {sd us u2 us' e : Int} {f f' : KF} {key : ByteArray} {w w' : World} (h : PutEnd lo gg sd b us u2 f key us' f' e w w') (hn : e ≠ 0) : GG lo gg sd b us' u2 f' w' := by
  obtain ⟨⟨b', u2', h1, h2⟩, _⟩ := h
  obtain ⟨rfl, rfl⟩ := h2.no hn
  exact h1
theorem conv1 (x : Int) (W : World) : (convert 52 9 (.slice (some ⟨W.heap.size, 0, none⟩) 1 1)).run Try.prog (W.alloc (.cells #[.int .u8 x] 5)) = .ok (.string ⟨#[UInt8.ofNat x.toNat]⟩) (W.alloc (.cells #[.int .u8 x] 5)) := by
  have hb := blk_new W (.cells #[.int .u8 x] 5)
  exact run_convert_bytes_arg (P := Try.prog) (W.alloc (.cells #[.int .u8 x] 5)) 52 5 Try.underlying52 Try.underlying5 W.heap.size 0 1 1 [x] rfl (fun i hi => by
    obtain rfl : i = 0 := by omega
    exact (blk_cell hb 0).trans rfl) 9 Try.underlying9
def lgK (i : Nat) : ByteArray := ⟨#[UInt8.ofNat (97 + i)]⟩
def lgF : Nat → KF
  | 0 => fun _ => none
  | i + 1 => upd (lgF i) (lgK i) (some (i : Int))
theorem lg0 : putF 8 (lgF 0) 0 (lgK 0) 0 = (0, 1, lgF 1) := putF_new (by decide) rfl (by decide)
theorem lg1 : putF 8 (lgF 1) 1 (lgK 1) 1 = (0, 2, lgF 2) := putF_new (by decide) rfl (by decide)
theorem lg2 : putF 8 (lgF 2) 2 (lgK 2) 2 = (0, 3, lgF 3) := putF_new (by decide) rfl (by decide)
theorem lg3 : putF 8 (lgF 3) 3 (lgK 3) 3 = (0, 4, lgF 4) := putF_new (by decide) rfl (by decide)
theorem lg4 : getF (lgF 4) (lgK 1) = (1, true) := rfl
theorem lg5 : delF (lgF 4) 4 (lgK 0) = (true, 3, upd (lgF 4) (lgK 0) none) := rfl
theorem lg6 : delF (upd (lgF 4) (lgK 0) none) 3 (lgK 0) = (false, 3, upd (lgF 4) (lgK 0) none) := rfl
theorem lg7 (f : KF) (u : Int) : putF 8 f u ⟨#[]⟩ 1 = (1, u, f) := rfl
theorem lgB (u : Int) (h : u < 3) : ¬ Begs 2 u 0 := by
  rintro ⟨_, _, h2⟩
  have e : (3 : Int) * 2 ^ 2 = 12 := by decide
  rw [e] at h2
  omega
theorem lgB3 : Begs 2 3 0 := ⟨rfl, by decide, by decide⟩
theorem lg_keys {ks : List ByteArray} (h : KeysIn (lgF 4) 4 ks) : ks = [lgK 0, lgK 1, lgK 2, lgK 3] := by
  refine h.same (u' := 4) ⟨by repeat constructor; all_goals (try decide), fun k => ?_, rfl⟩
  show _ ↔ ∃ v, upd (upd (upd (upd (fun _ => none) (lgK 0) (some 0)) (lgK 1) (some 1)) (lgK 2) (some 2)) (lgK 3) (some 3) k = some v
  unfold upd
  by_cases h0 : k = lgK 0
  · subst h0; exact ⟨fun _ => ⟨0, rfl⟩, fun _ => by simp⟩
  by_cases h1 : k = lgK 1
  · subst h1; exact ⟨fun _ => ⟨1, rfl⟩, fun _ => by simp⟩
  by_cases h2 : k = lgK 2
  · subst h2; exact ⟨fun _ => ⟨2, rfl⟩, fun _ => by simp⟩
  by_cases h3 : k = lgK 3
  · subst h3; exact ⟨fun _ => ⟨3, rfl⟩, fun _ => by simp⟩
  simp [h0, h1, h2, h3]
theorem pe_below {n0 gg b : Nat} {sd us u2 us' e : Int} {f f' : KF} {key : ByteArray} {w w' : World} (h : PutEnd (fun q => n0 ≤ q) gg sd b us u2 f key us' f' e w w') (hn : n0 ≤ w.heap.size) : Below n0 w w' := h.2.below (fun q h => h) hn
theorem fr_low {n0 : Nat} {w w' : World} (h : Fr (fun q => n0 ≤ q) w w') (hn : n0 ≤ w.heap.size) : Below n0 w w' := h.below (fun q h => h) hn
set_option maxRecDepth 100000 in
set_option maxHeartbeats 8000000 in
theorem live_calls (w : World) : Calls Try.prog 11 #[] w fun e w' => e = .returned (.bool true) ∧ Below w.heap.size w w' := by
  have CN := Aside0.mk (gg_new (fun q => w.heap.size ≤ q) 7 2 w (fun q h => h) (by decide) (by decide))
  go_enter Try.func11, Try.ntmps11
  go_upto_region 2 with (go_at_call 12; refine CN.out.mono ?_; rintro e w1 ⟨gg, rfl, hg, hb⟩; have HG := Aside0.mk hg; have HB := Aside0.mk hb; clear hg hb)
  clear CN
  go_upto_region 5 with (go_at_call 12; refine (gl_new_no 7 0 _ (Or.inl (by decide))).mono ?_; rintro e w2 ⟨rfl, hw⟩; obtain rfl : w1 = w2 := hw.symm)
  go_wp2
  go_loopw [5] (fun v5 w' => ∃ i : Nat, v5 = .int .i64 i ∧ Aside0 (i ≤ 3) ∧ Aside0 (GG (fun q => w.heap.size ≤ q) gg 7 2 i 0 (lgF i) w') ∧ Aside0 (Below w.heap.size w w')) (fun v5 _ => 3 - (intOf v5).toNat)
  case atStart => exact ⟨0, rfl, ⟨by decide⟩, HG, HB⟩
  case round =>
    clear HG HB
    obtain ⟨i, rfl, HI, HG, HB⟩ := hrel
    rcases (show i = 0 ∨ i = 1 ∨ i = 2 ∨ i = 3 by have := HI.out; omega) with rfl | rfl | rfl | rfl
    · have hcv := conv1 97 wr
      have HBx := Aside0.mk (HB.out.alloc (HB.out.size) (.cells #[.int .u8 97] 5))
      have HP := Aside0.mk (gg_put (HG.out.alloc (.cells #[.int .u8 97] 5)) (lgK 0) 0 lg0)
      go_wp2_with (go_at_call 23; refine HP.out.mono ?_; rintro e w2 ⟨rfl, hp⟩; have HQ := Aside0.mk hp; clear hp)
      refine ⟨⟨1, rfl, ⟨by decide⟩, ⟨pe_new HQ.out rfl (lgB 0 (by decide))⟩, ⟨HBx.out.trans (pe_below HQ.out HBx.out.size)⟩⟩, ?_⟩
      decide
    · have hcv := conv1 98 wr
      have HBx := Aside0.mk (HB.out.alloc (HB.out.size) (.cells #[.int .u8 98] 5))
      have HP := Aside0.mk (gg_put (HG.out.alloc (.cells #[.int .u8 98] 5)) (lgK 1) 1 lg1)
      go_wp2_with (go_at_call 23; refine HP.out.mono ?_; rintro e w2 ⟨rfl, hp⟩; have HQ := Aside0.mk hp; clear hp)
      refine ⟨⟨2, rfl, ⟨by decide⟩, ⟨pe_new HQ.out rfl (lgB 1 (by decide))⟩, ⟨HBx.out.trans (pe_below HQ.out HBx.out.size)⟩⟩, ?_⟩
      decide
    · have hcv := conv1 99 wr
      have HBx := Aside0.mk (HB.out.alloc (HB.out.size) (.cells #[.int .u8 99] 5))
      have HP := Aside0.mk (gg_put (HG.out.alloc (.cells #[.int .u8 99] 5)) (lgK 2) 2 lg2)
      go_wp2_with (go_at_call 23; refine HP.out.mono ?_; rintro e w2 ⟨rfl, hp⟩; have HQ := Aside0.mk hp; clear hp)
      refine ⟨⟨3, rfl, ⟨by decide⟩, ⟨pe_new HQ.out rfl (lgB 2 (by decide))⟩, ⟨HBx.out.trans (pe_below HQ.out HBx.out.size)⟩⟩, ?_⟩
      decide
    · clear HI
      go_upto_region 11 with (go_at_call 19; refine (gg_left HG.out).mono ?_; rintro e w2 ⟨rfl, hw⟩; obtain rfl : wr = w2 := hw.symm)
      go_upto_region 12 with (go_at_call 20; refine (gg_bits HG.out).mono ?_; rintro e w2 ⟨rfl, hw⟩; obtain rfl : wr = w2 := hw.symm)
      have HP := Aside0.mk (gg_put HG.out (lgK 3) 3 lg3)
      go_upto_region 13 with (go_at_call 23; refine HP.out.mono ?_; rintro e w3 ⟨rfl, hp⟩; have HG3 := Aside0.mk (show GG (fun q => w.heap.size ≤ q) gg 7 3 4 1 (lgF 4) w3 from pe_beg hp rfl lgB3); have HB3 := Aside0.mk (HB.out.trans (pe_below hp HB.out.size)); clear hp)
      clear HP HG HB
      have HP := Aside0.mk (gg_get HG3.out (lgK 1) (by decide) lg4)
      go_upto_region 14 with (go_at_call 26; refine HP.out.mono ?_; rintro e w4 ⟨rfl, hg, hb⟩; have HG4 := Aside0.mk hg; have HB4 := Aside0.mk (HB3.out.trans (hb.mono HB3.out.size)); clear hg hb)
      clear HP HG3 HB3
      go_upto_region 15 with (go_at_call 19; refine (gg_left HG4.out).mono ?_; rintro e w2 ⟨rfl, hw⟩; obtain rfl : w4 = w2 := hw.symm)
      have HP := Aside0.mk (gg_move HG4.out 5)
      go_upto_region 16 with (go_at_call 27; refine HP.out.mono ?_; rintro e w5 ⟨rfl, hg, hb⟩; have HG5 := Aside0.mk (show GG (fun q => w.heap.size ≤ q) gg 7 3 4 0 (lgF 4) w5 from hg); have HB5 := Aside0.mk (HB4.out.trans (fr_low hb HB4.out.size)); clear hg hb)
      clear HP HG4 HB4
      obtain ⟨ks, hks, hkc⟩ := gg_keys HG5.out
      obtain rfl := lg_keys hks
      clear hks
      have HP := Aside0.mk hkc
      clear hkc
      go_upto_region 17 with (go_at_call 17; refine HP.out.mono ?_; rintro e w6 ⟨v, rfl, ho, hb⟩; obtain ⟨Ak, ck, rfl⟩ := Kd.R_slice ho; have HG6 := Aside0.mk (HG5.out.below hb); have HB6 := Aside0.mk (HB5.out.trans (hb.mono HB5.out.size)); have HK := Aside0.mk (Kd.R_reads' ho).2.2; clear ho hb)
      clear HP HG5 HB5
      have C1 := Aside0.mk (gg_len HG6.out)
      have C2 := Aside0.mk (fun w7 (h : GG (fun q => w.heap.size ≤ q) gg 7 3 4 0 (lgF 4) w7) => gg_del h (lgK 0) (by decide) lg5)
      have C3 := Aside0.mk (fun u2 w8 (h : GG (fun q => w.heap.size ≤ q) gg 7 3 3 u2 (upd (lgF 4) (lgK 0) none) w8) => gg_del h (lgK 0) (by decide) lg6)
      have C4 := Aside0.mk (fun u2 w8 (h : GG (fun q => w.heap.size ≤ q) gg 7 3 3 u2 (upd (lgF 4) (lgK 0) none) w8) => gg_put h ⟨#[]⟩ 1 (lg7 _ _))
      go_wp2_with (first | (go_at_call 23; refine (C4.out _ _ HG9.out).mono ?_; rintro e w10 ⟨rfl, hp⟩; have HB10 := Aside0.mk (HB9.out.trans (pe_below hp HB9.out.size)); clear hp) | (go_at_call 25; refine (C3.out _ _ HG8.out).mono ?_; rintro e w9 ⟨rfl, ⟨u9, hg, _, _⟩, hb⟩; have HG9 := Aside0.mk hg; have HB9 := Aside0.mk (HB8.out.trans (fr_low hb HB8.out.size)); clear hg hb) | (go_at_call 25; refine (C2.out _ HG7.out).mono ?_; rintro e w8 ⟨rfl, ⟨u8, hg, _, _⟩, hb⟩; have HG8 := Aside0.mk hg; have HB8 := Aside0.mk (HB7.out.trans (fr_low hb HB7.out.size)); clear hg hb) | (go_at_call 15; refine C1.out.mono ?_; rintro e w7 ⟨rfl, hg, hb⟩; have HG7 := Aside0.mk hg; have HB7 := Aside0.mk (HB6.out.trans (hb.mono HB6.out.size)); replace HK := Aside0.mk (Kd.C_below HK.out hb); clear hg hb; obtain ⟨ak, ek, x0⟩ := Kd.at_string HK.out 3 (by decide) (by decide); subst ek; replace x0 : w7.cell? ⟨ak.block, ak.off + 3, none⟩ = some (.string ⟨#[100]⟩) := x0) | (go_at_call 19; refine (gg_left HG6.out).mono ?_; rintro e w2 ⟨rfl, hw⟩; obtain rfl : w6 = w2 := hw.symm) | (go_at_call 20; refine (gg_bits HG6.out).mono ?_; rintro e w2 ⟨rfl, hw⟩; obtain rfl : w6 = w2 := hw.symm))
      go_ret
      exact ⟨rfl, HB10.out⟩
end Go.Proofs.Ytmnikjhnomphmaa.La


namespace Go.Proofs.Ytmnikjhnomphmaa.La
open Go.RowKit Go.Proofs.Ytmnikjhnomphmaa.Zip Go.Proofs.YtmnikjhnomphmaaW.PrintWords Go.Proofs.YtmnikjhnomphmaaW.PrintLast Go.Proofs.YtmnikjhnomphmaaW.PrintMore Go.Proofs.Ytmnikjhnomphmaa.Q
set_option linter.unusedSimpArgs false
set_option linter.unusedVariables false
theorem ni_get (key : ByteArray) (w : World) : Calls Try.prog 26 #[.pointer none, .string key] w fun e w' => e = .returned (.tuple #[.int .i64 0, .bool false]) ∧ w' = w := by
  go_enter Try.func26, Try.ntmps26
  go_wp2
  go_ret2
  exact ⟨rfl, rfl⟩
theorem ni_put (key : ByteArray) (v : Int) (w : World) : Calls Try.prog 23 #[.pointer none, .string key, .int .i64 v] w fun e w' => e = .returned (.int .i64 4) ∧ w' = w := by
  go_enter Try.func23, Try.ntmps23
  go_wp2
  go_ret
  exact ⟨rfl, rfl⟩
theorem ni_delete (key : ByteArray) (w : World) : Calls Try.prog 25 #[.pointer none, .string key] w fun e w' => e = .returned (.bool false) ∧ w' = w := by
  go_enter Try.func25, Try.ntmps25
  go_wp2
  go_ret
  exact ⟨rfl, rfl⟩
theorem ni_left (w : World) : Calls Try.prog 19 #[.pointer none] w fun e w' => e = .returned (.int .i64 0) ∧ w' = w := by
  go_enter Try.func19, Try.ntmps19
  go_wp2
  go_ret
  exact ⟨rfl, rfl⟩
theorem ni_len (w : World) : Calls Try.prog 15 #[.pointer none] w fun e w' => e = .returned (.int .i64 0) ∧ w' = w := by
  go_enter Try.func15, Try.ntmps15
  go_wp2
  go_ret
  exact ⟨rfl, rfl⟩
theorem ni_bits (w : World) : Calls Try.prog 20 #[.pointer none] w fun e w' => e = .returned (.int .i64 0) ∧ w' = w := by
  go_enter Try.func20, Try.ntmps20
  go_wp2
  go_ret
  exact ⟨rfl, rfl⟩
theorem ni_keys (w : World) : Calls Try.prog 17 #[.pointer none] w fun e w' => e = .returned (.slice none 0 0) ∧ w' = w := by
  go_enter Try.func17, Try.ntmps17
  go_wp2
  go_ret
  exact ⟨rfl, rfl⟩
theorem ni_move (n : Int) (w : World) : Calls Try.prog 27 #[.pointer none, .int .i64 n] w fun e w' => e = .returned (.int .i64 0) ∧ w' = w := by
  by_cases h : 0 < n
  · have d1 : decide (0 < n) = true := decide_eq_true h
    have HL := Aside0.mk (ni_left w)
    clear h
    go_enter Try.func27, Try.ntmps27
    go_wp2
    go_loopw [5, 6, 7, 8, 9] (fun v5 v6 v7 v8 v9 w' => v5 = .int .i64 0 ∧ w' = w) (fun _ _ _ _ _ _ => 0)
    case atStart => exact ⟨rfl, rfl⟩
    case round =>
      obtain ⟨rfl, rfl⟩ := hrel
      go_wp2_with (go_at_call 19; refine HL.out.mono ?_; rintro e w1 ⟨rfl, hw⟩; have hw2 := hw.symm; subst hw2)
      go_ret
      exact ⟨rfl, rfl⟩
  · have d1 : decide (0 < n) = false := decide_eq_false h
    clear h
    go_enter Try.func27, Try.ntmps27
    go_wp2
    go_loopw [5, 6, 7, 8, 9] (fun v5 v6 v7 v8 v9 w' => v5 = .int .i64 0 ∧ w' = w) (fun _ _ _ _ _ _ => 0)
    case atStart => exact ⟨rfl, rfl⟩
    case round =>
      obtain ⟨rfl, rfl⟩ := hrel
      go_wp2
      go_ret
      exact ⟨rfl, rfl⟩
end Go.Proofs.Ytmnikjhnomphmaa.La


namespace Go.Proofs.Ytmnikjhnomphmaa.Q
open Go.RowKit Go.Proofs.Ytmnikjhnomphmaa.Zip Go.Proofs.YtmnikjhnomphmaaW.PrintWords Go.Proofs.YtmnikjhnomphmaaW.PrintLast Go.Proofs.YtmnikjhnomphmaaW.PrintMore Go.Proofs.Ytmnikjhnomphmaa.La
set_option linter.unusedVariables false
set_option linter.unusedSimpArgs false
def sandglasslaw06_GrowNil.f (a0 : ByteArray) (a1 : Int) : Option Bool := some true
set_option maxHeartbeats 4000000 in
theorem sandglasslaw06_GrowNil.calls (a0 : ByteArray) (a1 : Int) (r : Bool) (w : World) (h : sandglasslaw06_GrowNil.f a0 a1 = some r) :
    Calls Try.prog 7 #[.string a0, .int .i64 a1] w fun e w' => e = .returned (.bool r) ∧ Below w.heap.size w w' := by
  obtain rfl := Option.some.inj h
  clear h
  by_cases hs : a0.size > 100
  · have d1 : decide ((100 : Int) < (a0.size : Int)) = true := decide_eq_true (by omega)
    go_enter Try.func7, Try.ntmps7
    go_wp2_with (go_at_call 11; refine (live_calls _).mono ?_; rintro e w1 ⟨rfl, hb⟩)
    go_ret
    exact ⟨rfl, hb⟩
  have d1 : decide ((100 : Int) < (a0.size : Int)) = false := decide_eq_false (by omega)
  go_enter Try.func7, Try.ntmps7
  go_wp2_with (first | (go_at_call 26; refine (ni_get a0 _).mono ?_; rintro e w1 ⟨rfl, rfl⟩) | (go_at_call 23; refine (ni_put a0 a1 _).mono ?_; rintro e w1 ⟨rfl, rfl⟩) | (go_at_call 25; refine (ni_delete a0 _).mono ?_; rintro e w1 ⟨rfl, rfl⟩) | (go_at_call 27; refine (ni_move a1 _).mono ?_; rintro e w1 ⟨rfl, rfl⟩) | (go_at_call 19; refine (ni_left _).mono ?_; rintro e w1 ⟨rfl, rfl⟩) | (go_at_call 15; refine (ni_len _).mono ?_; rintro e w1 ⟨rfl, rfl⟩) | (go_at_call 20; refine (ni_bits _).mono ?_; rintro e w1 ⟨rfl, rfl⟩) | (go_at_call 17; refine (ni_keys _).mono ?_; rintro e w1 ⟨rfl, rfl⟩) | (go_at_call 11; refine (live_calls _).mono ?_; rintro e w3 ⟨rfl, hb⟩))
  go_ret
  exact ⟨rfl, hb⟩
end Go.Proofs.Ytmnikjhnomphmaa.Q


namespace Go.Proofs.Ytmnikjhnomphmaa.Op
open Go.RowKit Go.Proofs.YtmnikjhnomphmaaW.PrintWords Go.WideShapes

/-- Whatever reads as a datum of the type t is told by the kind d, and is as 'ok' says. -/
def Opens (P : Program) (t : TypeId) {α : Type} (d : Kd α) (ok : α → Prop) : Prop :=
  ∀ {H : Type} {enc : TypeId × Value → H} {w : World} {base : Nat} {spare : Nat → Bool} {held : Bool} {fuel : Nat} {cs : List Value} {x : DataW H × List MemPlace},
    DataW.trod enc P w base spare held fuel t cs = some x → ∃ a, d.K w a cs ∧ ok a

theorem Opens.int {P : Program} {t : TypeId} {k : IntKind} (hu : P.underlying t = some (.int k)) : Opens P t (Kd.int k) (fun a => (Lit.int k a).wf = true) := by
  intro H enc w base spare held fuel cs x h
  obtain ⟨n, rfl, _, hw⟩ := DataW.trod_int hu h
  exact ⟨n, rfl, hw⟩
theorem Opens.bool {P : Program} {t : TypeId} (hu : P.underlying t = some .bool) : Opens P t Kd.bool (fun _ => True) := by
  intro H enc w base spare held fuel cs x h
  obtain ⟨n, rfl, _⟩ := DataW.trod_bool hu h
  exact ⟨n, rfl, trivial⟩
theorem Opens.string {P : Program} {t : TypeId} (hu : P.underlying t = some .string) : Opens P t Kd.string (fun s => s.size ≤ maxLen) := by
  intro H enc w base spare held fuel cs x h
  obtain ⟨n, rfl, _, hs⟩ := DataW.trod_string hu h
  exact ⟨n, rfl, hs⟩
theorem Opens.slice {P : Program} {t e : TypeId} {α : Type} [Inhabited α] {d : Kd α} {ok : α → Prop} (hu : P.underlying t = some (.slice e)) (he : Opens P e d ok) (hc : P.cellsOf e = d.sz) :
    Opens P t (Kd.slice e d) (fun xs => xs.length ≤ maxLen ∧ ∀ x ∈ xs, ok x) := by
  intro H enc w base spare held fuel cs x h
  rcases Deep.open_slice hu h with ⟨rfl, _⟩ | ⟨a, len, cap, m, n, D, Pl, rfl, _, hl, hm, hmm, _, hel⟩
  · exact ⟨[], ⟨none, 0, rfl, Nat.le_refl _, Kd.C_nil d w⟩, ⟨Nat.zero_le _, fun x hx => by cases hx⟩⟩
  · have hle : len ≤ m := by rw [hmm]; split <;> omega
    obtain ⟨f, hf⟩ := Deep.choose_lt (α := α) (n := len) (p := fun i p => ok p ∧ ∃ c, c.length = d.sz ∧ d.K w p c ∧ ∀ j u, c[j]? = some u → w.cell? (a.add (i * d.sz + j)) = some u) (fun i hi => by
      obtain ⟨cs', h1, h2⟩ := hel i (by omega)
      obtain ⟨y, hK, hok⟩ := he h2
      obtain ⟨_, hlen, hcell⟩ := World.cells?_some h1
      refine ⟨y, hok, cs', by rw [hlen, hc], hK, fun j u hj => ?_⟩
      have hlt : j < P.cellsOf e := by rw [← hlen]; exact (List.getElem?_eq_some_iff.1 hj).1
      have := hcell j hlt
      rw [hc, Deep.add_add] at this
      rw [this, hj])
    refine ⟨(List.range len).map f, ⟨some a, cap, by simp, by simpa using hl, ?_⟩, by simpa using Nat.le_trans hl hm, ?_⟩
    · refine ⟨rfl, ?_, fun _ => ⟨a, rfl, fun j p hj => ?_⟩⟩
      · have : maxLen ≤ 9223372036854775807 := by decide
        simp; omega
      · rw [List.getElem?_map] at hj
        obtain ⟨q, hq, rfl⟩ := Option.map_eq_some_iff.1 hj
        have hlt := (List.getElem?_eq_some_iff.1 hq).1
        rw [List.length_range] at hlt
        rw [List.getElem?_range hlt] at hq
        obtain rfl := Option.some.inj hq
        exact (hf j hlt).2
    · intro x hx
      obtain ⟨i, hi, rfl⟩ := List.mem_map.1 hx
      exact (hf i (List.mem_range.1 hi)).1
theorem Opens.iso {P : Program} {t : TypeId} {α β : Type} {d : Kd α} {ok : α → Prop} (h : Opens P t d ok) (f : β → α) (g : α → β) (hfg : ∀ y, f (g y) = y) : Opens P t (Kd.iso d f) (fun b => ok (f b)) := by
  intro H enc w base spare held fuel cs x hx
  obtain ⟨a, hK, hok⟩ := h hx
  exact ⟨g a, by show d.K w (f (g a)) cs; rw [hfg]; exact hK, by show ok (f (g a)); rw [hfg]; exact hok⟩

/-- Parts in line: each of a type, at a place. -/
def OpensG (P : Program) {β : Type} (ty : β → TypeId) (at_ : β → Nat) (l : List β) (off : Nat) {α : Type} (d : Kd α) (ok : α → Prop) : Prop :=
  ∀ {H : Type} {enc : TypeId × Value → H} {w : World} {base : Nat} {spare : Nat → Bool} {held : Bool} {fuel : Nat} {cs : List Value} {ys : List (DataW H × List MemPlace)},
    cs.length = off + d.sz → l.mapM (fun b => DataW.trod enc P w base spare held fuel (ty b) ((cs.drop (at_ b)).take (P.cellsOf (ty b)))) = some ys → ∃ a, d.K w a (cs.drop off) ∧ ok a

theorem OpensG.one {P : Program} {β : Type} {ty : β → TypeId} {at_ : β → Nat} {b : β} {off : Nat} {α : Type} {d : Kd α} {ok : α → Prop} (h : Opens P (ty b) d ok) (ha : at_ b = off) (hc : P.cellsOf (ty b) = d.sz) : OpensG P ty at_ [b] off d ok := by
  intro H enc w base spare held fuel cs ys hl hm
  simp only [List.mapM_cons, List.mapM_nil, Option.pure_def, Option.bind_eq_bind, Option.bind_eq_some_iff] at hm
  obtain ⟨y, hy, _⟩ := hm
  rw [ha, hc] at hy
  obtain ⟨a, hK, hok⟩ := h hy
  rw [List.take_of_length_le (by rw [List.length_drop]; omega)] at hK
  exact ⟨a, hK, hok⟩
theorem OpensG.cons {P : Program} {β : Type} {ty : β → TypeId} {at_ : β → Nat} {b : β} {l : List β} {off : Nat} {α γ : Type} {d : Kd α} {ok : α → Prop} {d2 : Kd γ} {ok2 : γ → Prop} (h : Opens P (ty b) d ok) (ha : at_ b = off) (hc : P.cellsOf (ty b) = d.sz)
    (h2 : OpensG P ty at_ l (off + d.sz) d2 ok2) : OpensG P ty at_ (b :: l) off (Kd.pair d d2) (fun p => ok p.1 ∧ ok2 p.2) := by
  intro H enc w base spare held fuel cs ys hl hm
  simp only [List.mapM_cons, Option.pure_def, Option.bind_eq_bind, Option.bind_eq_some_iff] at hm
  obtain ⟨y, hy, zs, hz, _⟩ := hm
  rw [ha, hc] at hy
  obtain ⟨a, hK, hok⟩ := h hy
  have hl' : cs.length = off + (d.sz + d2.sz) := hl
  obtain ⟨c, hK2, hok2⟩ := h2 (by omega) hz
  refine ⟨(a, c), ⟨_, _, ?_, hK, hK2⟩, hok, hok2⟩
  rw [← List.drop_drop, List.take_append_drop]
theorem Opens.struct {P : Program} {t : TypeId} {fs : Array Field} {α : Type} {d : Kd α} {ok : α → Prop} (hu : P.underlying t = some (.struct fs)) (hc : P.cellsOf t = d.sz) (h : OpensG P (fun f : Field => f.type) (fun f => f.offset) fs.toList 0 d ok) : Opens P t d ok := by
  intro H enc w base spare held fuel cs x hx
  cases fuel with
  | zero => simp [DataW.trod] at hx
  | succ n =>
    unfold DataW.trod at hx
    rw [hu] at hx
    split at hx <;> (try simp_all; done)
    all_goals
      rename_i heq
      injection heq with h1
      injection h1 with h2
      subst h2
      split at hx
      · rename_i hl
        obtain ⟨ys, hy, _⟩ := Option.map_eq_some_iff.1 hx
        have := h (by rw [hl, hc]; omega) hy
        simpa using this
      · cases hx
theorem Opens.array {P : Program} {t e : TypeId} {n : Nat} {α : Type} {d : Kd α} {ok : α → Prop} (hu : P.underlying t = some (.array n e)) (hc : P.cellsOf t = d.sz) (h : OpensG P (fun _ : Nat => e) (fun i => i * P.cellsOf e) (List.range n) 0 d ok) : Opens P t d ok := by
  intro H enc w base spare held fuel cs x hx
  cases fuel with
  | zero => simp [DataW.trod] at hx
  | succ m =>
    unfold DataW.trod at hx
    rw [hu] at hx
    split at hx <;> (try simp_all; done)
    all_goals
      rename_i heq
      injection heq with h1
      injection h1 with h2 h3
      subst h2 h3
      split at hx
      · rename_i hl
        obtain ⟨ys, hy, _⟩ := Option.map_eq_some_iff.1 hx
        have := h (by rw [hl, hc]; omega) hy
        simpa using this
      · cases hx
theorem okWide_array {P : Program} {w : World} {r : Reach} {base : Nat} {t e : TypeId} {n : Nat} {v : Value} (ht : P.underlying t = some (.array n e)) (h : Value.okWide P w r base t v) : ∃ cs, v = .agg cs := by
  unfold Value.okWide at h
  rw [ht] at h
  obtain ⟨cs, hcs, _⟩ := h
  exact ⟨cs, hcs⟩
theorem agg_of {cs : Array Value} {l : List Value} (h : (Value.agg cs).cells.toList = l) : cs = l.toArray := by
  rw [← h]; rfl
theorem slice_of {a A : Option Addr} {n m c C : Nat} (h : (Value.slice a n c).cells.toList = [.slice A m C]) : a = A ∧ n = m ∧ c = C := by
  simpa [Value.cells] using h
theorem trod_lt_all {H : Type} {enc : TypeId × Value → H} {P : Program} {w : World} {base : Nat} {spare : Nat → Bool} {held : Bool} {t : TypeId} {v : Value} {d : DataW H} {p : List MemPlace} (h : DataW.Trod enc P w base spare held t v d p) : ∀ x ∈ p, x.block < w.heap.size := by
  obtain ⟨m, hm⟩ := h
  exact DataW.trod_lt m _ _ _ hm
theorem Opens.out {P : Program} {t : TypeId} {α : Type} {d : Kd α} {ok : α → Prop} (h : Opens P t d ok) {H : Type} {enc : TypeId × Value → H} {w : World} {base : Nat} {spare : Nat → Bool} {held : Bool} {fuel : Nat} {cs : List Value} {x : DataW H × List MemPlace}
    (hx : DataW.trod enc P w base spare held fuel t cs = some x) : ∃ a, d.K w a cs ∧ ok a := h hx
attribute [irreducible] Opens OpensG
end Go.Proofs.Ytmnikjhnomphmaa.Op


namespace Go.Proofs.Ytmnikjhnomphmaa.growNil
open Go.RowKit Go.Proofs.YtmnikjhnomphmaaW.PrintWords Go.Proofs.YtmnikjhnomphmaaW.PrintLast Go.Proofs.YtmnikjhnomphmaaW.PrintMore Go.Proofs.Ytmnikjhnomphmaa.Q
def Pure : Prop := ∀ (a0 : ByteArray) (a1 : Int), a0.size ≤ maxLen → (Lit.int .i64 a1).wf = true → sandglasslaw06_GrowNil.f a0 a1 = some true
end Go.Proofs.Ytmnikjhnomphmaa.growNil


namespace Go.Proofs.Ytmnikjhnomphmaa.growNil
open Go.Proofs.Ytmnikjhnomphmaa.Q
theorem pure : Pure := by
  unfold Pure
  intros
  rfl
end Go.Proofs.Ytmnikjhnomphmaa.growNil


namespace Go.Proofs.Ytmnikjhnomphmaa.growNil
open Go.ChangeShapes Go.WideShapes Go.ChangeAt Go.RowKit
open Go.Proofs.Ytmnikjhnomphmaa.Op Go.Proofs.YtmnikjhnomphmaaW.PrintWords Go.Proofs.Ytmnikjhnomphmaa.Q
set_option linter.unusedVariables false
theorem own : ownKnob Try.prog.godebug = none := by kernel_rfl
theorem laidOut : laidOutB Try.prog = true := by kernel_rfl
set_option maxRecDepth 100000 in
set_option maxHeartbeats 2000000 in
theorem lifted (os : Os) (started : os.Started) (H : Type) (enc : TypeId × Value → H) :
    ReturnsInHanded {} Try.checked os 7 .any (Rows.growNilSpec.pre6 enc Try.prog Try.f7 Rows.growNilRow.domain false) (Rows.growNilSpec.post enc Try.prog Try.f7 false true false false) := by
  refine returnsInHanded_of_change_sized (C := Try.checked) own started (by kernel_rfl) Try.func7
    (ChangeSpec.witness6 (enc := enc) (C := Try.checked) false ⟨#[], #[.string ByteArray.empty, .int .i64 0], []⟩ 8 (by kernel_rfl) (by kernel_rfl) (by kernel_rfl) (by kernel_rfl)) ?_
  intro W base args ds gs before hval0 hW hcnd hsz0 _
  have hval : ∀ (j : Nat) t v, Try.f7.params[j]? = some t → args[j]? = some v → Value.okWide Try.prog W .any base t v := hval0
  have hW' := hW
  obtain ⟨p, q, hA0, hV, rfl, hfz, hnd⟩ := hW
  have hA : DataW.TrodAll enc Try.prog W 0 (fun _ => true) true Try.f7.params.toList args.toList ds p := hA0
  rw [Try.params7] at hA hval
  obtain ⟨v0, vs0, d0, ds0, p0, q0, hargs, rfl, rfl, h0, r0⟩ := trodAll_cons hA
  obtain ⟨v1, vs1, d1, ds1, p1, q1, rfl, rfl, rfl, h1, r1⟩ := trodAll_cons r0
  obtain ⟨rfl, rfl, rfl⟩ := trodAll_nil r1
  obtain rfl : args = #[v0, v1] := by cases args; simp_all
  obtain ⟨rfl, rfl⟩ := trodVars_none hV
  have k0 := h0
  obtain ⟨fu0, hf0⟩ := h0
  obtain ⟨va0, rfl⟩ := okWide_string Try.underlying9 (hval 0 9 v0 rfl rfl)
  obtain ⟨a0, hcsa0, oka0⟩ := ((Opens.string Try.underlying9)).out hf0
  obtain rfl : a0 = va0 := by have e_ : [_] = [_] := hcsa0; simp at e_; exact e_.symm
  have k1 := h1
  obtain ⟨fu1, hf1⟩ := h1
  obtain ⟨va1, rfl⟩ := okWide_int Try.underlying3 (hval 1 3 v1 rfl rfl)
  obtain ⟨a1, hcsa1, oka1⟩ := ((Opens.int Try.underlying3)).out hf1
  obtain rfl : a1 = va1 := by have e_ : [_] = [_] := hcsa1; simp at e_; exact e_.symm
  clear hA0 hval0 hsz0
  have hp := pure a0 a1 oka0 oka1
  refine (sandglasslaw06_GrowNil.calls a0 a1 true W hp).mono fun e W' ⟨he, bel0⟩ => ?_
  have bel : Below W.heap.size W W' := bel0
  subst he
  exact ⟨_, rfl, _, _, _, [], _, [], hW', trodAll_mk1 (shut_bool Try.underlying4 _), (trodAll_cons_mk (Below.trod laidOut (by kernel_rfl) (of_decide_eq_true (by kernel_rfl)) k0 bel (trod_lt_all k0)) (trodAll_cons_mk (Below.trod laidOut (by kernel_rfl) (of_decide_eq_true (by kernel_rfl)) k1 bel (trod_lt_all k1)) trodAll_mk0)), rfl, bel.frame _, fun h => by cases h⟩
theorem over : Rows.growNilRow.holds Try.pinned (OpenSpec.ofChange Rows.growNilSpec) :=
  OpenClaim.holds_of_wide 7 Try.f7 rfl rfl rfl rfl rfl rfl rfl ⟨rfl, rfl, rfl, rfl, rfl⟩ rfl rfl rfl rfl rfl (by kernel_rfl) Try.func7 (by kernel_rfl)
    (of_decide_eq_true (by kernel_rfl)) (by unfold Func.isWrapper; first | (rw [if_pos (by decide +kernel)]; kernel_rfl) | (rw [if_neg (by decide +kernel)]; exact ⟨rfl, rfl⟩))
    (fun os started H enc _ => lifted os started H enc)
end Go.Proofs.Ytmnikjhnomphmaa.growNil
namespace Go.Proofs.Ytmnikjhnomphmaa
/-- The statement. -/
theorem growNil_holds : Rows.GrowNilSaid := growNil.over
#print axioms growNil_holds
end Go.Proofs.Ytmnikjhnomphmaa

