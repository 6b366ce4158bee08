-- Laid by wip/tools/hprint.py, a program of this repo, over the kit's print; not a text of print.sh.
import Derived.Test.YtmnikjhnomphmaaQ0
import Derived.Test.YtmnikjhnomphmaaQ2
import Derived.Test.YtmnikjhnomphmaaQ12
namespace Go.Proofs.Ytmnikjhnomphmaa.Q
open Go.RowKit Go.Proofs.Ytmnikjhnomphmaa.Zip Go.Proofs.YtmnikjhnomphmaaW.PrintWords Go.Proofs.YtmnikjhnomphmaaW.PrintLast Go.Proofs.YtmnikjhnomphmaaW.PrintMore
attribute [local go_sem] max2_int min2_int max_two min_two max_three min_three max_four min_four   -- for this text's walks alone
set_option linter.unusedVariables false
set_option linter.unusedSimpArgs false

/-! ### robin_Table_Slots: given by hand -/
theorem Tab.row {g gs : Nat} {sd bi us : Int} {l : List S84} {W : World} (h : Tab g gs sd bi l us W) (hl : l.length ≤ 1000000) : Kd.C k84 W (some ⟨gs, 0, none⟩) l.length l := by
  refine ⟨rfl, by omega, fun _ => ⟨⟨gs, 0, none⟩, rfl, fun j p hj => ⟨slotV p, rfl, k84_mk W p, fun i u hu => ?_⟩⟩⟩
  have hi : i < 4 := by
    have := (List.getElem?_eq_some_iff.1 hu).1
    simpa [slotV] using this
  have e : (⟨gs, 0, none⟩ : Addr).add (j * 4 + i) = ⟨gs, j * 4 + i, none⟩ := by
    simp [Addr.add]; omega
  show W.cell? ((⟨gs, 0, none⟩ : Addr).add (j * 4 + i)) = some u
  rw [e, cell_of_row W gs _ _ _ (0, 0) h.sl, List.getElem?_toArray, Nat.mul_comm j 4, cellsOf_at l j i p hj hi, hu]
def robin_Table_Slots.f : Option Int := some 0
theorem robin_Table_Slots.calls_nil (w : World) : Calls Try.prog 49 #[.pointer none] w fun e w' => e = .returned (.slice none 0 0) ∧ w' = w := by
  go_enter Try.func49, Try.ntmps49
  go_wp2
  go_ret
  exact ⟨rfl, rfl⟩
theorem robin_Table_Slots.calls (g gs : Nat) (sd bi us : Int) (l : List S84) (w : World) (ht : Tab g gs sd bi l us w) (hl : l.length ≤ 1000000) :
    Calls Try.prog 49 #[.pointer (some ⟨g, 0, none⟩)] w fun e w' => ∃ v, e = .returned v ∧ Kd.R k84 84 w' w.heap.size (fun _ => True) v l ∧ Below w.heap.size w w' := by
  have c2 : w.cell? ⟨g, 2, none⟩ = some (.slice (some ⟨gs, 0, none⟩) l.length l.length) := (blk_cell ht.hd 2).trans rfl
  have HC := Aside0.mk (api_Slot_66.calls (some ⟨gs, 0, none⟩) l.length l l w (ht.row hl) (Nat.le_refl _) (by unfold api_Slot_66.f; rw [Option.bind_some, if_pos (by rw [List.length_nil]; omega)]; rfl))
  clear ht
  go_enter Try.func49, Try.ntmps49
  go_wp2_with (go_at_call 66; refine HC.out.mono ?_; rintro e w1 ⟨v, rfl, ho, hb⟩; have HO := Aside0.mk ho; have HB := Aside0.mk hb; clear ho hb)
  go_ret
  exact ⟨v, rfl, HO.out, HB.out⟩

end Go.Proofs.Ytmnikjhnomphmaa.Q
