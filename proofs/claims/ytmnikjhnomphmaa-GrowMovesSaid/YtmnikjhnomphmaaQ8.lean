-- Laid by wip/tools/hprint.py, a program of this repo, over the kit's print; not a text of print.sh.
import Derived.Test.YtmnikjhnomphmaaQ0
import Derived.Test.YtmnikjhnomphmaaQ2
import Derived.Test.YtmnikjhnomphmaaQ7
namespace Go.Proofs.Ytmnikjhnomphmaa.Q
open Go.RowKit Go.Proofs.Ytmnikjhnomphmaa.Zip Go.Proofs.YtmnikjhnomphmaaW.PrintWords Go.Proofs.YtmnikjhnomphmaaW.PrintLast Go.Proofs.YtmnikjhnomphmaaW.PrintMore
attribute [local go_sem] max2_int min2_int max_two min_two max_three min_three max_four min_four   -- for this text's walks alone
set_option linter.unusedVariables false
set_option linter.unusedSimpArgs false

/-! ### robin_Table_find: given by hand -/
def findL (l : List S84) (key : ByteArray) (h : Nat) : Nat → Nat → Option Nat
  | 0, _ => none
  | r + 1, d => if (rd_T84 l (((h + d) % l.length : Nat) : Int)).f0 = false then none else if (rd_T84 l (((h + d) % l.length : Nat) : Int)).f3 < (d : Int) then none else if (rd_T84 l (((h + d) % l.length : Nat) : Int)).f1 = key then some ((h + d) % l.length) else findL l key h r (d + 1)
def findT (sd : Int) (b : Nat) (l : List S84) (key : ByteArray) : Option Nat := findL l key (homeN sd b key) l.length 0
theorem rdT_at {l : List S84} {i : Nat} (h : i < l.length) : l[i]? = some (rd_T84 l (i : Int)) := by
  unfold rd_T84
  rw [Int.toNat_natCast, List.getD_eq_getElem?_getD, List.getElem?_eq_getElem h]; rfl
theorem len_pow {l : List S84} {b : Nat} (hl : l.length = 2 ^ b) (hb : b ≤ 8) : 1 ≤ l.length ∧ l.length ≤ 256 := by
  have h1 := Nat.pow_le_pow_right (show 0 < 2 by omega) hb
  have h2 := Nat.pos_of_ne_zero (show 2 ^ b ≠ 0 by simp)
  rw [hl]; omega
theorem str_eq (a b : ByteArray) : (a.toList == b.toList) = decide (a = b) := by
  rw [ByteArray.toList_eq, ByteArray.toList_eq]
  by_cases h : a = b
  · subst h; simp
  · rw [decide_eq_false h, beq_eq_false_iff_ne]
    intro e
    apply h
    obtain ⟨⟨a⟩⟩ := a; obtain ⟨⟨b⟩⟩ := b
    simp only at e
    rw [e]
def robin_Table_find.f : Option Int := some 0
theorem robin_Table_find.calls_nil (key : ByteArray) (w : World) : Calls Try.prog 46 #[.pointer none, .string key] w fun e w' => e = .returned (.tuple #[.int .i64 0, .bool false]) ∧ w' = w := by
  go_enter Try.func46, Try.ntmps46
  go_wp2
  go_ret2
  exact ⟨rfl, rfl⟩
set_option maxHeartbeats 1000000 in
theorem robin_Table_find.calls (g gs : Nat) (sd us : Int) (b : Nat) (l : List S84) (key : ByteArray) (w : World) (ht : Tab g gs sd (b : Int) l us w) (hl : l.length = 2 ^ b) (h0 : 1 ≤ b) (h1 : b ≤ 8) (hk : key.size ≤ 4611686018427387904) :
    Calls Try.prog 46 #[.pointer (some ⟨g, 0, none⟩), .string key] w fun e w' => e = .returned (.tuple #[.int .i64 (((findT sd b l key).getD 0 : Nat) : Int), .bool (findT sd b l key).isSome]) ∧ Below w.heap.size w w' := by
  have HT := Aside0.mk ht
  have HL := Aside0.mk hl
  obtain ⟨l1, l2⟩ := len_pow hl h1
  have HH := Aside0.mk (homeN_lt sd b key h0 (by omega))
  rw [← hl] at HH
  obtain ⟨R, hR⟩ : ∃ R, findT sd b l key = R := ⟨_, rfl⟩
  rw [hR]
  unfold findT at hR
  have HK := Aside0.mk hk
  clear ht hl hk
  go_enter Try.func46, Try.ntmps46
  go_upto_region 4 with (go_at_call 48; refine (robin_Table_home.calls g gs sd us b l key _ HT.out h0 h1 HK.out).mono ?_; rintro e w1 ⟨rfl, hb⟩; have HB := Aside0.mk hb; replace HT := Aside0.mk (HT.out.below hb); clear hb)
  obtain ⟨hm, hhm⟩ : ∃ hm, homeN sd b key = hm := ⟨_, rfl⟩
  rw [hhm] at HH hR ⊢
  clear hhm
  have H := Aside0.mk hR
  clear hR
  have c2 : w1.cell? ⟨g, 2, none⟩ = some (.slice (some ⟨gs, 0, none⟩) l.length l.length) := (blk_cell HT.out.hd 2).trans rfl
  go_wp2_with (fail)
  go_loopg [19] l.length (fun kq v19 w' => ∃ (d : Nat), v19 = .int .i64 d ∧ Aside0 (d + kq = l.length) ∧ Aside0 (findL l key hm kq d = R) ∧ w1 = w')
  case atStart => exact ⟨0, rfl, ⟨Nat.zero_add _⟩, H, rfl⟩
  case round =>
    clear H
    obtain ⟨d, rfl, HD, HA, rfl⟩ := hrel
    cases gk with
    | zero =>
      have d1 : decide (d < l.length) = false := decide_eq_false (by have := HD.out; omega)
      go_wp2
      go_ret2
      have e : R = none := by rw [← HA.out]; rfl
      subst e
      exact ⟨rfl, HB.out⟩
    | succ k1 =>
      have hlt : d < l.length := by have := HD.out; omega
      have d1 : decide (d < l.length) = true := decide_eq_true hlt
      have hi : (hm + d) % l.length < l.length := Nat.mod_lt _ (by omega)
      obtain ⟨x0, x1, x2, x3⟩ := HT.out.cell (rdT_at hi)
      have H := HA.out
      clear HA
      rw [findL] at H
      have HM := Aside0.mk (show hm ≤ 100000 by have := HH.out; omega)
      obtain ⟨i, hii⟩ : ∃ i, (hm + d) % l.length = i := ⟨_, rfl⟩
      rw [hii] at H hi x0 x1 x2 x3
      go_upto_region 8 with (go_at_call 47; refine (robin_Table_at.calls g gs sd (b : Int) us l b hm d _ HT.out HL.out h1 HM.out (by omega) i hii).mono ?_; rintro e w2 ⟨rfl, hw⟩; obtain rfl : w1 = w2 := hw.symm)
      clear hii
      by_cases hu : (rd_T84 l (i : Int)).f0 = false
      · rw [if_pos hu] at H
        subst H
        rw [hu] at x0
        go_wp2
        go_ret2
        exact ⟨rfl, HB.out⟩
      rw [if_neg hu] at H
      rw [Bool.not_eq_false] at hu
      rw [hu] at x0
      by_cases hd : (rd_T84 l (i : Int)).f3 < (d : Int)
      · rw [if_pos hd] at H
        subst H
        have d2 : decide ((rd_T84 l (i : Int)).f3 < (d : Int)) = true := decide_eq_true hd
        go_wp2
        go_ret2
        exact ⟨rfl, HB.out⟩
      rw [if_neg hd] at H
      have d2 : decide ((rd_T84 l (i : Int)).f3 < (d : Int)) = false := decide_eq_false hd
      have se := str_eq (rd_T84 l (i : Int)).f1 key
      by_cases hk : (rd_T84 l (i : Int)).f1 = key
      · rw [if_pos hk] at H
        subst H
        rw [decide_eq_true hk] at se
        clear hk hd
        go_wp2
        go_ret2
        exact ⟨rfl, HB.out⟩
      rw [if_neg hk] at H
      rw [decide_eq_false hk] at se
      have H' := Aside0.mk H
      clear H hk hd
      have dd : wrap64 ((d : Int) + 1) = ((d + 1 : Nat) : Int) := by unfold wrap64; omega
      go_wp2
      go_roundg k1
      case measure => omega
      case rel => exact ⟨d + 1, by first | rfl | rw [dd], ⟨by have := HD.out; omega⟩, H', rfl⟩

end Go.Proofs.Ytmnikjhnomphmaa.Q
