-- Laid by wip/tools/hprint.py, a program of this repo, over the kit's print; not a text of print.sh.
import Derived.Test.YteljllpkjhkanaaQ0
import Derived.Test.YteljllpkjhkanaaQ3
import Derived.Test.YteljllpkjhkanaaQ4
import Derived.Test.YteljllpkjhkanaaQ6
import Derived.Test.YteljllpkjhkanaaQ7
import Derived.Test.YteljllpkjhkanaaQ9
namespace Go.Proofs.Yteljllpkjhkanaa.Q
open Go.RowKit Go.Proofs.Yteljllpkjhkanaa.Zip Go.Proofs.YteljllpkjhkanaaW.PrintWords Go.Proofs.YteljllpkjhkanaaW.PrintLast Go.Proofs.YteljllpkjhkanaaW.PrintMore
attribute [local go_sem] max2_int min2_int max_two min_two max_three min_three max_four min_four   -- for this text's walks alone
set_option linter.unusedVariables false
set_option linter.unusedSimpArgs false

/-! ### sandglasslaw20_live: given by hand -/
def sandglasslaw20_live.f : Option Bool := some true
theorem feed_x : frame_Reader_Feed.f 20 ⟨#[]⟩ 0 false ⟨#[0, 1, 97, 0, 0, 0]⟩ = some (⟨#[0]⟩, 0, false, [⟨⟨#[97]⟩, 0⟩, ⟨⟨#[]⟩, 8⟩]) := by kernel_rfl
theorem feed_y : frame_Reader_Feed.f 20 ⟨#[0]⟩ 0 false ⟨#[1, 98, 2, 1]⟩ = some (⟨#[]⟩, 513, true, [⟨⟨#[98]⟩, 0⟩, ⟨⟨#[]⟩, 8⟩]) := by kernel_rfl
theorem feed_z : frame_Reader_Feed.f 20 ⟨#[]⟩ 513 true ⟨#[49, 50, 51, 52, 53]⟩ = some (⟨#[]⟩, 508, true, []) := by kernel_rfl
theorem enc_hi : frame_Encode.f 20 ⟨#[104, 105]⟩ = some (⟨#[0, 2, 104, 105]⟩, 0) := by kernel_rfl
theorem enc_no : frame_Encode.f 20 ⟨#[]⟩ = some (⟨#[]⟩, 1) := by kernel_rfl
theorem rowG {W W' : World} {g n0 : Nat} {v : Value} {xs : List S37} (hr : Kd.R k37 37 W 0 (fun k_ => n0 ≤ k_) v xs) (hg : g < n0) (h : W.grownBy W' (some g)) : Kd.R k37 37 W' 0 (fun k_ => n0 ≤ k_) v xs :=
  Kd.R_step hr (fun j hj hlt => h.block j hlt (by intro e; injection e with e; omega))
theorem belG {w W W' : World} {g : Nat} (h : Below w.heap.size w W) (hg : w.heap.size ≤ g) (k : W.grownBy W' (some g)) : Below w.heap.size w W' := h.grown k h.size (fun q e => by injection e with e; omega)
set_option maxHeartbeats 4000000 in
theorem sandglasslaw20_live.calls (w : World) : Calls Try.prog 6 #[] w fun e w' => e = .returned (.bool true) ∧ Below w.heap.size w w' := by
  go_enter Try.func6, Try.ntmps6
  go_upto_region 2 with (go_at_call 13; refine (frame_Encode.calls 20 _ _ _ _ enc_hi).mono ?_; rintro e w1 ⟨rfl, hb⟩; have HB1 := Aside0.mk hb; clear hb)
  go_upto_region 3 with (go_at_call 13; refine (frame_Encode.calls 20 _ _ _ _ enc_no).mono ?_; rintro e w2 ⟨rfl, hb⟩; have HB2 := Aside0.mk (HB1.out.trans (hb.mono HB1.out.size)); clear hb)
  go_upto_region 6 with (go_at_call 8; refine (frame_New.calls _).mono ?_; rintro e w3 ⟨rfl, rfl⟩; have HB3 := Aside0.mk (HB2.out.alloc HB2.out.size (rdO ⟨#[]⟩ 0 false)); have GL := Aside0.mk (show w2.heap.size < (w2.alloc (rdO ⟨#[]⟩ 0 false)).heap.size by simp))
  go_upto_region 7 with (go_at_call 11; refine (frame_Reader_Feed.calls 20 w2.heap.size _ _ _ _ _ _ _ _ _ (blk_new _ _) (by decide) (by decide) feed_x).mono ?_; rintro e w4 ⟨vx, rfl, ho, hb, hg, _⟩; obtain ⟨Ax, cx, rfl⟩ := Kd.R_slice ho; have HOX := Aside0.mk ho; have HBX := Aside0.mk hb; have HGX := Aside0.mk hg; have HB4 := Aside0.mk (belG HB3.out HB2.out.size hg); clear ho hb hg)
  go_upto_region 8 with (go_at_call 12; refine (frame_Reader_Left.calls _ _ _ _ _ HBX.out).mono ?_; rintro e wl ⟨rfl, rfl⟩)
  go_upto_region 9 with (go_at_call 11; refine (frame_Reader_Feed.calls 20 w2.heap.size _ _ _ _ _ _ _ _ _ HBX.out (by decide) (by decide) feed_y).mono ?_; rintro e w5 ⟨vy, rfl, ho, hb, hg, _⟩; obtain ⟨Ay, cy, rfl⟩ := Kd.R_slice ho; have HOY := Aside0.mk ho; have HBY := Aside0.mk hb; have HGY := Aside0.mk hg; have HOX5 := Aside0.mk (rowG HOX.out GL.out hg); have HB5 := Aside0.mk (belG HB4.out HB2.out.size hg); clear ho hb hg)
  go_upto_region 10 with (go_at_call 12; refine (frame_Reader_Left.calls _ _ _ _ _ HBY.out).mono ?_; rintro e wl ⟨rfl, rfl⟩)
  go_upto_region 11 with (go_at_call 11; refine (frame_Reader_Feed.calls 20 w2.heap.size _ _ _ _ _ _ _ _ _ HBY.out (by decide) (by decide) feed_z).mono ?_; rintro e w6 ⟨vz, rfl, ho, hb, hg, _⟩; obtain ⟨Az, cz, rfl⟩ := Kd.R_slice ho; have HOX6 := Aside0.mk (rowG HOX5.out GL.out hg); have HOY6 := Aside0.mk (rowG HOY.out (blk_lt HBX.out) hg); have HBZ := Aside0.mk hb; have HB6 := Aside0.mk (belG HB5.out HB2.out.size hg); clear ho hb hg)
  obtain ⟨ax, ex, x0, x1⟩ := at_T37 (Kd.R_reads' HOX6.out).2.2 0 (by decide) (by decide)
  obtain ⟨ax', ex', x2, x3⟩ := at_T37 (Kd.R_reads' HOX6.out).2.2 1 (by decide) (by decide)
  obtain ⟨ay, ey, y0, y1⟩ := at_T37 (Kd.R_reads' HOY6.out).2.2 0 (by decide) (by decide)
  obtain ⟨ay', ey', y2, y3⟩ := at_T37 (Kd.R_reads' HOY6.out).2.2 1 (by decide) (by decide)
  subst ex ey
  injection ex' with ex'
  injection ey' with ey'
  subst ex' ey'
  replace x0 : w6.cell? ax = some (.string ⟨#[97]⟩) := x0
  replace x1 : w6.cell? ⟨ax.block, ax.off + 1, none⟩ = some (.int .i64 0) := x1
  replace x2 : w6.cell? ⟨ax.block, ax.off + 2, none⟩ = some (.string ⟨#[]⟩) := x2
  replace x3 : w6.cell? ⟨ax.block, ax.off + 2 + 1, none⟩ = some (.int .i64 8) := x3
  replace y0 : w6.cell? ay = some (.string ⟨#[98]⟩) := y0
  replace y1 : w6.cell? ⟨ay.block, ay.off + 1, none⟩ = some (.int .i64 0) := y1
  replace y2 : w6.cell? ⟨ay.block, ay.off + 2, none⟩ = some (.string ⟨#[]⟩) := y2
  replace y3 : w6.cell? ⟨ay.block, ay.off + 2 + 1, none⟩ = some (.int .i64 8) := y3
  go_wp2_with (go_at_call 12; refine (frame_Reader_Left.calls _ _ _ _ _ HBZ.out).mono ?_; rintro e wl ⟨rfl, rfl⟩)
  go_ret
  exact ⟨rfl, HB6.out⟩

end Go.Proofs.Yteljllpkjhkanaa.Q
