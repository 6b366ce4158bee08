-- Laid by wip/tools/hprint.py, a program of this repo, over the kit's print; not a text of print.sh.
import Derived.Test.YtmnikjhnomphmaaQ0
namespace Go.Proofs.Ytmnikjhnomphmaa.Q
open Go.RowKit Go.Proofs.Ytmnikjhnomphmaa.Zip Go.Proofs.YtmnikjhnomphmaaW.PrintWords Go.Proofs.YtmnikjhnomphmaaW.PrintLast Go.Proofs.YtmnikjhnomphmaaW.PrintMore
attribute [local go_sem] max2_int min2_int max_two min_two max_three min_three max_four min_four   -- for this text's walks alone
set_option linter.unusedVariables false
set_option linter.unusedSimpArgs false

/-! ### slices_Sort_string_string: given by hand, over the kit's contract -/
/-- Texts, rising. -/
def sortB (xs : List ByteArray) : List ByteArray := ((xs.map fun (s : ByteArray) => s.data.toList).mergeSort fun x y => decide (x ≤ y)).map fun l => ⟨l.toArray⟩
def slices_Sort_string_string.f : Option Int := some 0
theorem inner_str {xs : List ByteArray} {inner : List Value} {W : World} {base : Nat} {ok : Nat → Prop} (h : Reps (Kd.string.M W base ok) 1 xs inner) : inner = (xs.map fun (s : ByteArray) => s.data.toList).map Go.Proofs.encStr := by
  apply List.ext_getElem?
  intro j
  obtain ⟨hl, hr⟩ := h
  by_cases hj : j < xs.length
  · have h1 := hr j xs[j] (List.getElem?_eq_getElem hj)
    have h2 : ((inner.drop (j * 1)).take 1) = [Value.string xs[j]] := h1
    rw [Nat.mul_one] at h2
    have h3 : (inner.drop j)[0]? = some (Value.string xs[j]) := by
      have := congrArg (fun q => q[0]?) h2
      rw [List.getElem?_take_of_lt (by omega)] at this
      simpa using this
    rw [List.getElem?_drop, Nat.add_zero] at h3
    rw [h3, List.getElem?_map, List.getElem?_map, List.getElem?_eq_getElem hj]
    rfl
  · rw [List.getElem?_eq_none (by omega), List.getElem?_eq_none (by simp; omega)]
theorem reps_str (ts : List (List UInt8)) (W : World) (base : Nat) (ok : Nat → Prop) : Reps (Kd.string.M W base ok) 1 (ts.map fun l => (⟨l.toArray⟩ : ByteArray)) (ts.map Go.Proofs.encStr) := by
  refine ⟨by simp, fun j p hp => ?_⟩
  rw [List.getElem?_map] at hp
  obtain ⟨l, hl, rfl⟩ := Option.map_eq_some_iff.1 hp
  show ((ts.map Go.Proofs.encStr).drop (j * 1)).take 1 = [Value.string ⟨l.toArray⟩]
  obtain ⟨hlt, he⟩ := List.getElem?_eq_some_iff.1 hl
  rw [Nat.mul_one, List.drop_eq_getElem_cons (by simpa using hlt)]
  simp [he, Go.Proofs.encStr]
theorem slices_Sort_string_string.calls (W : World) (base : Nat) (ok : Nat → Prop) (v : Value) (xs : List ByteArray) (hx : xs.length < 1000000) (hv : Kd.R Kd.string 9 W base ok v xs) :
    Calls Try.prog 34 #[v] W fun e w' => e = .returned (.tuple #[]) ∧ Kd.R Kd.string 9 w' base ok v (sortB xs) ∧ W.grownBy w' v.ownBlock := by
  obtain ⟨h0, inner, hown, hr⟩ := hv
  have hin := inner_str hr
  have hsz : Kd.string.sz = 1 := rfl
  rw [hsz] at hown
  obtain ⟨hl, hown⟩ := hown
  rcases hown with ⟨rfl, hn⟩ | ⟨g, cap, cur, rfl, hb, hh, hnc, hcm, hcs, ht⟩
  · obtain rfl : xs = [] := List.eq_nil_of_length_eq_zero hn
    refine (Try.slices_Sort_string_none none 0 W).mono ?_
    rintro e w' ⟨rfl, rfl⟩
    have hz : sortB [] = [] := by simp [sortB]
    rw [hz]
    refine ⟨rfl, ⟨h0, [], own_nil _ _ _ _, Reps.none _ _⟩, ?_⟩
    exact ⟨rfl, rfl, rfl, Nat.le_refl _, fun _ _ _ => rfl⟩
  · have hlen : (xs.map fun (s : ByteArray) => s.data.toList).length = xs.length := List.length_map _
    have ht2 : cur.toList.take (xs.map fun (s : ByteArray) => s.data.toList).length = (xs.map fun (s : ByteArray) => s.data.toList).map Go.Proofs.encStr := by
      rw [hlen, ← hin, ← ht, Nat.mul_one]
    have C := Try.slices_Sort_string g 0 cap (xs.map fun (s : ByteArray) => s.data.toList) W (holds_of_block hh ht2) (blk_lt hh) (by rw [hlen]; omega)
    rw [hlen] at C
    refine C.mono ?_
    rintro e w' ⟨rfl, n, os, rfl⟩
    have hlt : ((xs.map fun (s : ByteArray) => s.data.toList).mergeSort fun x y => decide (x ≤ y)).length = (xs.map fun (s : ByteArray) => s.data.toList).length := List.length_mergeSort _
    refine ⟨rfl, ⟨h0, _, ?_, reps_str _ _ _ _⟩, ?_⟩
    · have := ownsRow_sorted (n := n) (os := os) hlt hb hh (by rw [hlen]; exact hnc) hcm hcs
      rw [hlen] at this
      have hz : (sortB xs).length = xs.length := by unfold sortB; rw [List.length_map, hlt, hlen]
      show World.ownsRow _ base 9 1 _ (sortB xs).length _
      rw [hz]
      exact this
    · exact grownBy_sorted _

end Go.Proofs.Ytmnikjhnomphmaa.Q
