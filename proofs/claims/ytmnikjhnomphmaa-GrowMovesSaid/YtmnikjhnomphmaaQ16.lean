-- Laid by wip/tools/hprint.py, a program of this repo, over the kit's print; not a text of print.sh.
import Derived.Test.YtmnikjhnomphmaaQ0
import Derived.Test.YtmnikjhnomphmaaQ2
import Derived.Test.YtmnikjhnomphmaaQ8
namespace Go.Proofs.Ytmnikjhnomphmaa.Q
open Go.RowKit Go.Proofs.Ytmnikjhnomphmaa.Zip Go.Proofs.YtmnikjhnomphmaaW.PrintWords Go.Proofs.YtmnikjhnomphmaaW.PrintLast Go.Proofs.YtmnikjhnomphmaaW.PrintMore
attribute [local go_sem] max2_int min2_int max_two min_two max_three min_three max_four min_four   -- for this text's walks alone
set_option linter.unusedVariables false
set_option linter.unusedSimpArgs false

/-! ### robin_Table_Get: given by hand -/
def getT (sd : Int) (b : Nat) (l : List S84) (key : ByteArray) : Int × Bool := match findT sd b l key with
  | none => (0, false)
  | some i => ((rd_T84 l (i : Int)).f2, true)
theorem findL_lt {l : List S84} {key : ByteArray} {h : Nat} (hl : 0 < l.length) : ∀ {r d i : Nat}, findL l key h r d = some i → i < l.length
  | 0, d, i, e => by simp [findL] at e
  | r + 1, d, i, e => by
    rw [findL] at e
    split at e
    · cases e
    · split at e
      · cases e
      · split at e
        · obtain rfl := Option.some.inj e
          exact Nat.mod_lt _ hl
        · exact findL_lt hl e
def robin_Table_Get.f : Option Int := some 0
theorem robin_Table_Get.calls_nil (key : ByteArray) (w : World) : Calls Try.prog 40 #[.pointer none, .string key] w fun e w' => e = .returned (.tuple #[.int .i64 0, .bool false]) ∧ w' = w := by
  go_enter Try.func40, Try.ntmps40
  go_wp2_with (go_at_call 46; refine (robin_Table_find.calls_nil key _).mono ?_; rintro e w1 ⟨rfl, rfl⟩)
  go_ret2
  exact ⟨rfl, rfl⟩
set_option maxHeartbeats 1000000 in
theorem robin_Table_Get.calls (g gs : Nat) (sd us : Int) (b : Nat) (l : List S84) (key : ByteArray) (w : World) (ht : Tab g gs sd (b : Int) l us w) (hl : l.length = 2 ^ b) (h0 : 1 ≤ b) (h1 : b ≤ 8) (hk : key.size ≤ 4611686018427387904) :
    Calls Try.prog 40 #[.pointer (some ⟨g, 0, none⟩), .string key] w fun e w' => e = .returned (.tuple #[.int .i64 (getT sd b l key).1, .bool (getT sd b l key).2]) ∧ Below w.heap.size w w' := by
  have HT := Aside0.mk ht
  have HL := Aside0.mk hl
  obtain ⟨l1, l2⟩ := len_pow hl h1
  have HK := Aside0.mk hk
  unfold getT
  obtain ⟨R, hR⟩ : ∃ R, findT sd b l key = R := ⟨_, rfl⟩
  have F := robin_Table_find.calls g gs sd us b l key w ht hl h0 h1 hk
  rw [hR] at F ⊢
  have HF := Aside0.mk F
  have HR := Aside0.mk hR
  clear ht hl hk hR F
  cases R with
  | none =>
    go_enter Try.func40, Try.ntmps40
    go_wp2_with (go_at_call 46; refine HF.out.mono ?_; rintro e w1 ⟨rfl, hb⟩; have HB := Aside0.mk hb; clear hb)
    go_ret2
    exact ⟨rfl, HB.out⟩
  | some i =>
    have hi : i < l.length := findL_lt (by omega) HR.out
    go_enter Try.func40, Try.ntmps40
    go_wp2_with (go_at_call 46; refine HF.out.mono ?_; rintro e w1 ⟨rfl, hb⟩; have HB := Aside0.mk hb; replace HT := Aside0.mk (HT.out.below hb); clear hb; have c2 := (blk_cell HT.out.hd 2).trans rfl; obtain ⟨x0, x1, x2, x3⟩ := HT.out.cell (rdT_at hi))
    go_ret2
    exact ⟨rfl, HB.out⟩

end Go.Proofs.Ytmnikjhnomphmaa.Q
