-- Laid by wip/tools/hprint.py, a program of this repo, over the kit's print; not a text of print.sh.
import Derived.Test.YthplifnhibahpaaQ0
import Derived.Test.YthplifnhibahpaaQ10
import Derived.Test.YthplifnhibahpaaQ14
import Derived.Test.YthplifnhibahpaaQ15
namespace Go.Proofs.Ythplifnhibahpaa.Q
open Go.RowKit Go.Proofs.Ythplifnhibahpaa.Zip Go.Proofs.YthplifnhibahpaaW.PrintWords Go.Proofs.YthplifnhibahpaaW.PrintLast Go.Proofs.YthplifnhibahpaaW.PrintMore
attribute [local go_sem] max2_int min2_int max_two min_two max_three min_three max_four min_four   -- for this text's walks alone
set_option linter.unusedVariables false
set_option linter.unusedSimpArgs false

/-! ### books_Delete: given by hand -/
set_option maxHeartbeats 4000000 in
theorem delete1_calls (W : World) (g o : Nat) (b : Bool) (q0 q1 q2 q3 v : Int)
    (h0 : W.cell? ⟨g, o, none⟩ = some (.bool b)) (h1 : W.cell? ⟨g, o + 1, none⟩ = some (.int .i64 q0)) (h2 : W.cell? ⟨g, o + 2, none⟩ = some (.int .i64 q1)) (h3 : W.cell? ⟨g, o + 3, none⟩ = some (.int .i64 q2)) (h4 : W.cell? ⟨g, o + 4, none⟩ = some (.int .i64 q3)) (h5 : W.cell? ⟨g, o + 5, none⟩ = some (.int .i64 v))
    (f0 : W.frozen? ⟨g, o, none⟩ = false) (f1 : W.frozen? ⟨g, o + 1, none⟩ = false) (f2 : W.frozen? ⟨g, o + 2, none⟩ = false) (f3 : W.frozen? ⟨g, o + 3, none⟩ = false) (f4 : W.frozen? ⟨g, o + 4, none⟩ = false) (f5 : W.frozen? ⟨g, o + 5, none⟩ = false) :
    Calls Try.prog 30 #[.pointer (some ⟨g, o, none⟩)] W fun e w' => e = .returned undef ∧ w' = W.setCells g o [.bool false, .int .i64 0, .int .i64 0, .int .i64 0, .int .i64 0] := by
  go_enter Try.func30, Try.ntmps30
  go_wp2
  go_end0
  refine ⟨rfl, ?_⟩
  simp only [World.setCells]
/-- Of an element of a row of the call's own, all but the last cell put anew. -/
theorem put_row5 {W : World} {base : Nat} {g n cap : Nat} {xs : List S43} (HO : Kd.R k43 43 W base (fun _ => True) (.slice (some ⟨g, 0, none⟩) n cap) xs) (i : Int) (h0 : 0 ≤ i) (h1 : i < n) (b : Bool) (x : S25) :
    Kd.R k43 43 (W.setCells g (i.toNat * 6) [.bool b, .int .i64 x.f0, .int .i64 x.f1, .int .i64 x.f2, .int .i64 x.f3]) base (fun _ => True) (.slice (some ⟨g, 0, none⟩) n cap) (xs.set i.toNat ⟨b, x, (rd_T43 xs i).f2⟩) ∧ W.grownBy (W.setCells g (i.toNat * 6) [.bool b, .int .i64 x.f0, .int .i64 x.f1, .int .i64 x.f2, .int .i64 x.f3]) (some g) := by
  have hr := Kd.R_reads' HO
  obtain ⟨ad, c, e, hcl, hK, hc⟩ := Kd.C_get hr.2.2 z43 i h0 (by omega)
  cases e
  have hk := k43_open hK
  have := Kd.R_seg (okp := fun k => k ≠ g) (j := 0) (seg := [.bool b, .int .i64 x.f0, .int .i64 x.f1, .int .i64 x.f2, .int .i64 x.f3]) (x' := ⟨b, x, (rd_T43 xs i).f2⟩) HO i h0 h1 hcl (fun j u hj => by have := hc j u hj; rw [add_plain] at this; exact this) (by show 0 + 5 ≤ 6; omega) (by
    rw [hk]
    exact k43_mkM W base _ ⟨b, x, (rd_T43 xs i).f2⟩) (fun k hk => ⟨trivial, hk⟩)
  exact this
set_option maxHeartbeats 4000000 in
theorem change_delete (A0 : Option Addr) (c0 : Nat) (l0 : List S43) (i : Int) (h0 : 0 ≤ i) (h1 : i < (l0.length : Int)) (l : List S43) (w : World) (hr0 : Kd.C k43 w A0 l0.length l0) (hc0 : l0.length ≤ c0) (h : api_Book_34.f l0 = some l) :
    Calls Try.prog 28 #[.slice A0 l0.length c0, .int .i64 i, .func (.func 30) #[] #[]] w fun e w' => ∃ (g cap : Nat), e = .returned (.slice (some ⟨g, 0, none⟩) l0.length cap) ∧ Kd.R k43 43 w' w.heap.size (fun _ => True) (.slice (some ⟨g, 0, none⟩) l0.length cap) (l0.set i.toNat ⟨false, ⟨0, 0, 0, 0⟩, (rd_T43 l0 i).f2⟩) ∧ Below w.heap.size w w' := by
  have hl : l = l0 := by
    unfold api_Book_34.f at h
    simp only [Option.bind_some, List.nil_append] at h
    split at h
    · exact (Option.some.inj h).symm
    · cases h
  subst hl
  have H := Aside0.mk h
  have HR := Aside0.mk hr0
  have HC := Aside0.mk hc0
  clear h hr0 hc0
  have h1' : decide (i < (l.length : Int)) = true := decide_eq_true h1
  go_enter Try.func28, Try.ntmps28
  go_wp2_with (first | (go_at_call 34; refine (api_Book_34.calls _ _ _ _ _ HR.out HC.out H.out).mono ?_; rintro e w1 ⟨v, rfl, ho, hb⟩; obtain ⟨g, cap, rfl, hbg, hg, cur, hcur⟩ := row_form ho (by omega); obtain ⟨ad, x0, x1, x2, x3, x4, x5, x6⟩ := at_T43 (Kd.R_reads' ho).2.2 i h0 h1; cases x0; rw [add_plain] at x1 x2 x3 x4 x5 x6; have HO := Aside0.mk ho; have HB := Aside0.mk hb; have HCUR := Aside0.mk hcur; clear ho hb hcur))
  refine (delete1_calls w1 g (i.toNat * 6) _ _ _ _ _ _ x1 x2 x3 x4 x5 x6 (frozen_of_cell HCUR.out _) (frozen_of_cell HCUR.out _) (frozen_of_cell HCUR.out _) (frozen_of_cell HCUR.out _) (frozen_of_cell HCUR.out _) (frozen_of_cell HCUR.out _)).mono ?_
  rintro e w2 ⟨rfl, rfl⟩
  clear x1 x2 x3 x4 x5 x6
  have P := put_row5 HO.out i h0 h1 false ⟨0, 0, 0, 0⟩
  obtain ⟨W, hW⟩ : ∃ W, W = w1.setCells g (i.toNat * 6) [.bool false, .int .i64 0, .int .i64 0, .int .i64 0, .int .i64 0] := ⟨_, rfl⟩
  rw [← hW] at P ⊢
  have P' := Aside0.mk P
  clear P hW
  go_wp2
  go_ret
  exact ⟨g, cap, rfl, P'.out.1, HB.out.grown P'.out.2 HB.out.size (fun k hk => by injection hk with hk; omega)⟩
def books_Delete.f (k : Nat) (l0 : List S43) (a1 : Int) : Option (List S43 × Int) := (books_Get.f k l0 a1).bind fun t => if t.2.2.2.2.2 = 0 then (if 0 ≤ a1 then (if a1 < (l0.length : Int) then ((api_Book_34.f l0).bind fun l => (some (l0.set a1.toNat ⟨false, ⟨0, 0, 0, 0⟩, (rd_T43 l0 a1).f2⟩, 0))) else none) else none) else (some (l0, t.2.2.2.2.2))
theorem books_Delete.mono : ∀ a0 a1 k, LeO (books_Delete.f k a0 a1) (books_Delete.f (k + 1) a0 a1) := by
  intro a0 a1 k
  unfold books_Delete.f
  exact LeO.bind (books_Get.mono _ _ _) (fun _ => LeO.refl _)
set_option maxHeartbeats 8000000 in
theorem books_Delete.calls (k : Nat) (P0_ : Nat → Prop) (A0 : Option Addr) (c0 : Nat) (l0 : List S43) (a1 : Int) (r1 : List S43) (r2 : Int) (w : World) (hs0 : Kd.V k43 43 w w.heap.size (fun k_ => P0_ k_) (.slice A0 l0.length c0) l0) (h : books_Delete.f k l0 a1 = some (r1, r2)) :
    Calls Try.prog 21 #[.slice A0 l0.length c0, .int .i64 a1] w fun e w' => ∃ v0_ : Value, e = .returned (.tuple #[v0_, .int .i64 r2]) ∧ Kd.V k43 43 w' w.heap.size (fun k_ => (P0_ k_ ∨ w.heap.size ≤ k_)) v0_ r1 ∧ Below w.heap.size w w' := by
  have HS := Aside0.mk hs0
  have HC := Aside0.mk (Kd.V_reads' hs0).2.1
  clear hs0
  unfold books_Delete.f at h
  obtain ⟨⟨t1, t2, t3, t4, t5, t6⟩, ht, h⟩ := Option.bind_eq_some_iff.1 h
  have HT := Aside0.mk ht
  clear ht
  dsimp only at h
  by_cases hz : t6 = 0
  case neg =>
    rw [if_neg hz] at h
    simp only [Option.some.injEq, Prod.mk.injEq] at h
    obtain ⟨rfl, rfl⟩ := h
    have hz' : (t6 != 0) = true := by simpa using hz
    have hz2 : (t6 == 0) = false := by simpa using hz
    clear hz
    go_enter Try.func21, Try.ntmps21
    go_wp2_with (first | (go_at_call 9; refine (books_Get.calls k A0 c0 l0 a1 t1 t2 t3 t4 t5 t6 _ (Kd.V_reads' HS.out).2.2 HC.out HT.out).mono ?_; rintro e w1 ⟨rfl, hb⟩; have HB := Aside0.mk hb; clear hb))
    go_ret2
    exact ⟨_, rfl, Kd.V_mono (Kd.V_alloc (Kd.V_below HS.out HB.out) _) (fun _ hk => .inl hk), HB.out.alloc HB.out.size _⟩
  subst hz
  rw [if_pos rfl] at h
  by_cases h0 : 0 ≤ a1
  case neg => rw [if_neg h0] at h; cases h
  by_cases h1 : a1 < (l0.length : Int)
  case neg => rw [if_pos h0, if_neg h1] at h; cases h
  rw [if_pos h0, if_pos h1] at h
  obtain ⟨l, hl, h⟩ := Option.bind_eq_some_iff.1 h
  have el : l = l0 := by
    unfold api_Book_34.f at hl
    simp only [Option.bind_some, List.nil_append] at hl
    split at hl
    · exact (Option.some.inj hl).symm
    · cases hl
  subst el
  have HL := Aside0.mk hl
  clear hl
  simp only [Option.some.injEq, Prod.mk.injEq] at h
  obtain ⟨rfl, rfl⟩ := h
  go_enter Try.func21, Try.ntmps21
  go_wp2_with (first | (go_at_call 9; refine (books_Get.calls k A0 c0 l a1 t1 t2 t3 t4 t5 0 _ (Kd.V_reads' HS.out).2.2 HC.out HT.out).mono ?_; rintro e w1 ⟨rfl, hb⟩; have HB := Aside0.mk hb; clear hb) | (go_at_call 28; refine (change_delete A0 c0 l a1 h0 h1 l _ (Kd.V_reads' (Kd.V_alloc (Kd.V_below HS.out HB.out) _)).2.2 HC.out HL.out).mono ?_; rintro e w3 ⟨g, cap, rfl, ho, hb⟩; have HO := Aside0.mk ho; have HB3 := Aside0.mk hb; clear ho hb))
  go_ret2
  have hw := HB.out.alloc HB.out.size (.cells #[.int .i64 t1, .int .i64 t2, .int .i64 t3, .int .i64 t4] 25)
  refine ⟨_, rfl, ?_, ?_⟩
  · exact Kd.V_mono (Kd.R_V (Kd.R_bound HO.out)) (fun _ hk => .inr (Nat.le_trans hw.size hk.2.1))
  · exact hw.trans (HB3.out.mono hw.size)

end Go.Proofs.Ythplifnhibahpaa.Q
