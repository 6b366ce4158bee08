-- Laid by wip/tools/hprint.py, a program of this repo, over the kit's print; not a text of print.sh.
import Derived.Test.YtmnikjhnomphmaaQ0
namespace Go.Proofs.Ytmnikjhnomphmaa.Q
open Go.RowKit Go.Proofs.Ytmnikjhnomphmaa.Zip Go.Proofs.YtmnikjhnomphmaaW.PrintWords Go.Proofs.YtmnikjhnomphmaaW.PrintLast Go.Proofs.YtmnikjhnomphmaaW.PrintMore
attribute [local go_sem] max2_int min2_int max_two min_two max_three min_three max_four min_four   -- for this text's walks alone
set_option linter.unusedVariables false
set_option linter.unusedSimpArgs false

/-! ### robin_Table_at: given by hand -/
/-- A slot's cells; a row's. -/
def slotV (s : S84) : List Value := [.bool s.f0, .string s.f1, .int .i64 s.f2, .int .i64 s.f3]
def cellsOf (l : List S84) : List Value := l.flatMap slotV
theorem cellsOf_len (l : List S84) : (cellsOf l).length = 4 * l.length := by
  induction l with
  | nil => rfl
  | cons x l ih => simp only [cellsOf, List.flatMap_cons, List.length_append, List.length_cons] at ih ⊢; rw [ih]; simp [slotV]; omega
theorem cellsOf_at : ∀ (l : List S84) (i j : Nat) (s : S84), l[i]? = some s → j < 4 → (cellsOf l)[4 * i + j]? = (slotV s)[j]?
  | [], i, j, s, h, _ => by simp at h
  | x :: l, 0, j, s, h, hj => by
    obtain rfl : x = s := by simpa using h
    show (slotV x ++ cellsOf l)[4 * 0 + j]? = _
    rw [List.getElem?_append_left (by simp [slotV]; omega), Nat.mul_zero, Nat.zero_add]
  | x :: l, i + 1, j, s, h, hj => by
    show (slotV x ++ cellsOf l)[4 * (i + 1) + j]? = _
    rw [List.getElem?_append_right (by simp [slotV]; omega)]
    have := cellsOf_at l i j s (by simpa using h) hj
    rw [← this]
    congr 1
    simp [slotV]; omega
theorem cellsOf_set : ∀ (l : List S84) (i : Nat) (s : S84), i < l.length → cellsOf (l.set i s) = ((((cellsOf l).set (4 * i) (.bool s.f0)).set (4 * i + 1) (.string s.f1)).set (4 * i + 2) (.int .i64 s.f2)).set (4 * i + 3) (.int .i64 s.f3)
  | [], _, _, h => by simp at h
  | x :: l, 0, s, _ => rfl
  | x :: l, i + 1, s, h => by
    have := cellsOf_set l i s (by simpa using h)
    show slotV x ++ cellsOf (l.set i s) = _
    rw [this]
    show _ = ((((slotV x ++ cellsOf l).set (4 * (i + 1)) _).set (4 * (i + 1) + 1) _).set (4 * (i + 1) + 2) _).set (4 * (i + 1) + 3) _
    have e : (slotV x).length = 4 := rfl
    rw [show 4 * (i + 1) = 4 + 4 * i by omega, show 4 + 4 * i + 1 = 4 + (4 * i + 1) by omega, show 4 + 4 * i + 2 = 4 + (4 * i + 2) by omega, show 4 + 4 * i + 3 = 4 + (4 * i + 3) by omega]
    simp only [← e, List.set_append_right, Nat.le_add_right, Nat.add_sub_cancel_left]
/-- A Table: its block and its slots'. -/
structure Tab (g gs : Nat) (sd bi : Int) (l : List S84) (us : Int) (W : World) : Prop where
  hd : W.heap[g]? = some (.cells #[.int .u64 sd, .int .i64 bi, .slice (some ⟨gs, 0, none⟩) l.length l.length, .int .i64 us] 73 (0, 0))
  sl : W.heap[gs]? = some (.cells (cellsOf l).toArray 84 (0, 0))
  ne : gs ≠ g
theorem Tab.below {g gs : Nat} {sd bi us : Int} {l : List S84} {W W' : World} (h : Tab g gs sd bi l us W) (hb : Below W.heap.size W W') : Tab g gs sd bi l us W' := ⟨blk_below h.hd hb, blk_below h.sl hb, h.ne⟩
theorem Tab.drew {g gs : Nat} {sd bi us : Int} {l : List S84} {W : World} (h : Tab g gs sd bi l us W) : Tab g gs sd bi l us W.drew := ⟨h.hd, h.sl, h.ne⟩
theorem Tab.drewN {g gs : Nat} {sd bi us : Int} {l : List S84} {W : World} (h : Tab g gs sd bi l us W) (n : Nat) : Tab g gs sd bi l us (W.drewN n) := ⟨h.hd, h.sl, h.ne⟩
theorem Tab.cell {g gs : Nat} {sd bi us : Int} {l : List S84} {W : World} (h : Tab g gs sd bi l us W) {i : Nat} {s : S84} (hi : l[i]? = some s) : W.cell? ⟨gs, i * 4, none⟩ = some (.bool s.f0) ∧ W.cell? ⟨gs, i * 4 + 1, none⟩ = some (.string s.f1) ∧ W.cell? ⟨gs, i * 4 + 2, none⟩ = some (.int .i64 s.f2) ∧ W.cell? ⟨gs, i * 4 + 3, none⟩ = some (.int .i64 s.f3) := by
  have hc : ∀ j, j < 4 → W.cell? ⟨gs, i * 4 + j, none⟩ = (slotV s)[j]? := fun j hj => by
    rw [cell_of_row W gs _ _ _ (0, 0) h.sl, List.getElem?_toArray, Nat.mul_comm i 4, cellsOf_at l i j s hi hj]
  exact ⟨hc 0 (by omega), hc 1 (by omega), hc 2 (by omega), hc 3 (by omega)⟩
theorem land_mod (x n b : Nat) (hn : n = 2 ^ b) (hb : b ≤ 8) (hx : x ≤ 1000000) : bits .and .i64 (x : Int) ((n - 1 : Nat) : Int) = ((x % n : Nat) : Int) := by
  have hq : 2 ^ b ≤ 256 := Nat.pow_le_pow_right (show 0 < 2 by omega) hb
  have h := (bits_nat .i64 62 (by decide) (fun n h0 h1 => IntWalk.i64_in n (by omega)) x (n - 1) (by omega) (by omega)).1
  rw [h, hn, Nat.and_two_pow_sub_one_eq_mod]
def robin_Table_at.f : Option Int := some 0
theorem robin_Table_at.calls0 (g gs : Nat) (sd bi us : Int) (l : List S84) (b h d : Nat) (w : World) (ht : Tab g gs sd bi l us w) (hl : l.length = 2 ^ b) (hb : b ≤ 8) (hh : h ≤ 100000) (hd : d ≤ 100000) :
    Calls Try.prog 47 #[.pointer (some ⟨g, 0, none⟩), .int .i64 (h : Int), .int .i64 (d : Int)] w fun e w' => e = .returned (.int .i64 (((h + d) % l.length : Nat) : Int)) ∧ w' = w := by
  have c2 : w.cell? ⟨g, 2, none⟩ = some (.slice (some ⟨gs, 0, none⟩) l.length l.length) := (blk_cell ht.hd 2).trans rfl
  have hp : 1 ≤ l.length ∧ l.length ≤ 256 := by
    have h1 := Nat.pow_le_pow_right (show 0 < 2 by omega) hb
    have h2 := Nat.pos_of_ne_zero (show 2 ^ b ≠ 0 by simp)
    rw [hl]; omega
  have HL := Aside0.mk hl
  clear hl
  have w1 : wrap64 ((h : Int) + (d : Int)) = (h : Int) + (d : Int) := by unfold wrap64; omega
  have w3 : wrap64 ((l.length : Int) - 1) = (l.length : Int) - 1 := by unfold wrap64; omega
  go_enter Try.func47, Try.ntmps47
  go_wp2
  go_ret
  have e := land_mod (h + d) l.length b HL.out hb (by omega)
  rw [Int.natCast_add, show ((l.length - 1 : Nat) : Int) = (l.length : Int) - 1 by omega] at e
  refine ⟨?_, rfl⟩
  rw [e]
  rfl
/-- The same, its answer by a name (so that no walk turns its spelling). -/
theorem robin_Table_at.calls (g gs : Nat) (sd bi us : Int) (l : List S84) (b h d : Nat) (w : World) (ht : Tab g gs sd bi l us w) (hl : l.length = 2 ^ b) (hb : b ≤ 8) (hh : h ≤ 100000) (hd : d ≤ 100000) (i : Nat) (hi : (h + d) % l.length = i) :
    Calls Try.prog 47 #[.pointer (some ⟨g, 0, none⟩), .int .i64 (h : Int), .int .i64 (d : Int)] w fun e w' => e = .returned (.int .i64 (i : Int)) ∧ w' = w := by
  subst hi
  exact robin_Table_at.calls0 g gs sd bi us l b h d w ht hl hb hh hd

end Go.Proofs.Ytmnikjhnomphmaa.Q
