-- Laid by wip/tools/hprint.py, a program of this repo, over the kit's print; not a text of print.sh.
import Derived.Test.YtalcmlgkdkbbaaaQ0
import Derived.Test.YtalcmlgkdkbbaaaQ7
import Derived.Test.YtalcmlgkdkbbaaaQ8
import Derived.Test.YtalcmlgkdkbbaaaQ12
import Derived.Test.YtalcmlgkdkbbaaaQ13
import Derived.Test.YtalcmlgkdkbbaaaQ14
namespace Go.Proofs.Ytalcmlgkdkbbaaa.Q
open Go.RowKit Go.Proofs.Ytalcmlgkdkbbaaa.Zip Go.Proofs.YtalcmlgkdkbbaaaW.PrintWords Go.Proofs.YtalcmlgkdkbbaaaW.PrintLast Go.Proofs.YtalcmlgkdkbbaaaW.PrintMore
attribute [local go_sem] max2_int min2_int max_two min_two max_three min_three max_four min_four   -- for this text's walks alone
set_option linter.unusedVariables false
set_option linter.unusedSimpArgs false

/-! ### ring_wait: given by hand -/
open Go.Shelf
theorem wide_fn (f : FuncId) : Fence.wide.fn f = True := rfl
attribute [local go_sem] Oper.semAt_some wide_fn
/-- What is told of the places that go, one behind the other. -/
def waitG (s : List Int) (most slot at_ : Int) : List Int → Int → Int → Int
  | [], _, _ => 0
  | i :: r, n, x => if n ≤ most then 0 else if wrap64 (n - rd s i) ≤ most then wrap64 (x - at_) else waitG s most slot at_ r (wrap64 (n - rd s i)) (wrap64 (x + slot))
def ring_wait.f (k : Nat) (a0_0 a0_1 a0_2 a0_3 a1_0 a1_1 : Int) (l1_2 : List Int) (l1_3 : List S54) (a2 : Int) : Option Int := (ring_total.f k a1_0 a1_1 l1_2 l1_3).bind fun n => (ring_number.f a0_0 a0_1 a0_2 a0_3 a1_0).bind fun a => (policy_Slot.f a0_0 a0_1 a0_2 a0_3).bind fun sl => (slices_Clone_int_int.f l1_2).bind fun s => (ring_number.f a0_0 a0_1 a0_2 a0_3 (wrap64 (a1_0 + a0_2))).bind fun c => if 1 ≤ a0_3 ∧ a0_3 ≤ 16 ∧ (s.length : Int) = a0_3 ∧ 0 ≤ a ∧ a ≤ 4611686018427387904 ∧ -4611686018427387904 ≤ c ∧ c ≤ 4611686018427387904 then some (waitG s a2 sl a1_0 (goneL a0_3 (a + 1) c) n (wrap64 ((a + 1) * sl))) else none
theorem ring_wait.mono : ∀ a0 a1 a2 a3 a4 a5 a6 a7 a8 k, LeO (ring_wait.f k a0 a1 a2 a3 a4 a5 a6 a7 a8) (ring_wait.f (k + 1) a0 a1 a2 a3 a4 a5 a6 a7 a8) := by
  intro a0 a1 a2 a3 a4 a5 a6 a7 a8 k
  unfold ring_wait.f
  exact LeO.bind (ring_total.mono _ _ _ _ _) (fun _ => LeO.refl _)
/-- The boxes that a region reads. -/
structure WB (w : World) (P C M R : Obj) (W : World) : Prop where
  p : W.heap[w.heap.size]? = some P
  c : W.heap[w.heap.size + 1]? = some C
  m : W.heap[w.heap.size + 1 + 1]? = some M
  r : W.heap[w.heap.size + 1 + 1 + 1]? = some R
  below : Below w.heap.size w W
theorem WB.step {w W W' : World} {P C M R : Obj} (h : WB w P C M R W) (hb : Below W.heap.size W W') : WB w P C M R W' :=
  ⟨blk_below h.p hb, blk_below h.c hb, blk_below h.m hb, blk_below h.r hb, h.below.trans (hb.mono h.below.size)⟩
theorem keepS {W w1 : World} {R : World → Prop} {p0 p1 p2 p3 p4 : Addr} {v0 v1 v2 v3 v4 : Value} (hR : ∀ {A B : World}, R A → Below A.heap.size A B → R B) (hb : Below W.heap.size W w1) (h : W.cell? p0 = some v0 ∧ W.cell? p1 = some v1 ∧ W.cell? p2 = some v2 ∧ W.cell? p3 = some v3 ∧ W.cell? p4 = some v4 ∧ R W) :
    w1.cell? p0 = some v0 ∧ w1.cell? p1 = some v1 ∧ w1.cell? p2 = some v2 ∧ w1.cell? p3 = some v3 ∧ w1.cell? p4 = some v4 ∧ R w1 :=
  ⟨pw_cell_below hb h.1, pw_cell_below hb h.2.1, pw_cell_below hb h.2.2.1, pw_cell_below hb h.2.2.2.1, pw_cell_below hb h.2.2.2.2.1, hR h.2.2.2.2.2 hb⟩
theorem of6 {a b c d e f : Prop} (h : a ∧ b ∧ c ∧ d ∧ e ∧ f) : f := h.2.2.2.2.2
theorem keepNew {W w1 : World} {v : Value} {t : TypeId} (hb : Below (W.alloc (.cells #[v] t)).heap.size (W.alloc (.cells #[v] t)) w1) : w1.heap[W.heap.size]? = some (.cells #[v] t (0, 0)) := blk_below (blk_new W _) hb
theorem keepNewD {W w1 : World} {v : Value} {t : TypeId} (hb : Below (W.alloc (.cells #[v] t)).drew.heap.size (W.alloc (.cells #[v] t)).drew w1) : w1.heap[W.heap.size]? = some (.cells #[v] t (0, 0)) := blk_below (w := (W.alloc (.cells #[v] t)).drew) (blk_drew (blk_new W _)) hb
theorem keepSet {w W W0 : World} {g : Nat} {P C M R : Obj} {v0 v1 v2 v3 v4 : Value} (h0 : WB w P C M R W0) (hg : W0.heap.size = g) (u : Value) (h : W.cell? ⟨w.heap.size, 0, none⟩ = some v0 ∧ W.cell? ⟨w.heap.size, 1, none⟩ = some v1 ∧ W.cell? ⟨w.heap.size, 2, none⟩ = some v2 ∧ W.cell? ⟨w.heap.size, 3, none⟩ = some v3 ∧ W.cell? ⟨w.heap.size + 1, 0, none⟩ = some v4 ∧ WB w P C M R W) :
    (W.setCell ⟨g, 0, none⟩ u).cell? ⟨w.heap.size, 0, none⟩ = some v0 ∧ (W.setCell ⟨g, 0, none⟩ u).cell? ⟨w.heap.size, 1, none⟩ = some v1 ∧ (W.setCell ⟨g, 0, none⟩ u).cell? ⟨w.heap.size, 2, none⟩ = some v2 ∧ (W.setCell ⟨g, 0, none⟩ u).cell? ⟨w.heap.size, 3, none⟩ = some v3 ∧ (W.setCell ⟨g, 0, none⟩ u).cell? ⟨w.heap.size + 1, 0, none⟩ = some v4 ∧ WB w P C M R (W.setCell ⟨g, 0, none⟩ u) := by
  have hlt := blk_lt h0.r
  have hf : ∀ k, k ≤ w.heap.size + 1 + 1 + 1 → (W.setCell ⟨g, 0, none⟩ u).heap[k]? = W.heap[k]? := fun k hk => Below.heap_setCell _ _ _ _ (by show k ≠ g; omega)
  obtain ⟨a0, a1, a2, a3, a4, hb⟩ := h
  refine ⟨(World.cell?_of_block (w := W) (hf _ (by show w.heap.size ≤ _; omega))).trans a0, (World.cell?_of_block (w := W) (hf _ (by show w.heap.size ≤ _; omega))).trans a1, (World.cell?_of_block (w := W) (hf _ (by show w.heap.size ≤ _; omega))).trans a2, (World.cell?_of_block (w := W) (hf _ (by show w.heap.size ≤ _; omega))).trans a3, (World.cell?_of_block (w := W) (hf _ (by show w.heap.size + 1 ≤ _; omega))).trans a4, (hf _ (by omega)).trans hb.p, (hf _ (by omega)).trans hb.c, (hf _ (by omega)).trans hb.m, (hf _ (by omega)).trans hb.r, hb.below.setCell (p := ⟨g, 0, none⟩) (by show w.heap.size ≤ g; omega) _⟩
/-- Beside them the boxes of n and of next. -/
structure WX (w : World) (P C M R : Obj) (gn : Nat) (n : Int) (gx : Nat) (x : Int) (W : World) : Prop where
  wb : WB w P C M R W
  bn : W.heap[gn]? = some (.cells #[.int .i64 n] 3 (0, 0))
  bx : W.heap[gx]? = some (.cells #[.int .i64 x] 3 (0, 0))
  ne : gn ≠ gx
  ln : w.heap.size + 1 + 1 + 1 < gn
  lx : w.heap.size + 1 + 1 + 1 < gx
theorem WX.step {w W W' : World} {P C M R : Obj} {gn gx : Nat} {n x : Int} (h : WX w P C M R gn n gx x W) (hb : Below W.heap.size W W') : WX w P C M R gn n gx x W' :=
  ⟨h.wb.step hb, blk_below h.bn hb, blk_below h.bx hb, h.ne, h.ln, h.lx⟩
/-- Beside them the box of the sums, and what they are; r: what is told. -/
structure WY (w : World) (P C M : Obj) (gn gx gs N : Nat) (sv : Value) (s : List Int) (n x r : Int) (W : World) : Prop where
  wx : WX w P C M (.cells #[.int .i64 r] 3 (0, 0)) gn n gx x W
  bs : W.heap[gs]? = some (.cells #[sv] 24 (0, 0))
  row : Kd.V (Kd.int .i64) 3 W w.heap.size (fun k_ => w.heap.size + 1 + 1 + 1 < k_ ∧ k_ ≠ gn ∧ k_ ≠ gx ∧ k_ ≠ gs ∧ k_ < N) sv s
  sn : gs ≠ gn
  sx : gs ≠ gx
  ls : w.heap.size + 1 + 1 + 1 < gs
  ln : gn < N
  lx : gx < N
  lN : gs < N
theorem WY.moved {w W W' : World} {P C M : Obj} {gn gx gs N : Nat} {sv : Value} {s : List Int} {n x r : Int} (h : WY w P C M gn gx gs N sv s n x r W) (hm : ∀ k, k < N → k < W.heap.size → W'.heap[k]? = W.heap[k]?) (hb : Below w.heap.size w W') : WY w P C M gn gx gs N sv s n x r W' := by
  have f : ∀ {k : Nat} {o : Obj}, k < N → W.heap[k]? = some o → W'.heap[k]? = some o := fun hk ho => (hm _ hk (blk_lt ho)).trans ho
  have h1 := h.wx.ln
  have h2 := h.ln
  exact ⟨⟨⟨f (by omega) h.wx.wb.p, f (by omega) h.wx.wb.c, f (by omega) h.wx.wb.m, f (by omega) h.wx.wb.r, hb⟩, f h.ln h.wx.bn, f h.lx h.wx.bx, h.wx.ne, h.wx.ln, h.wx.lx⟩, f h.lN h.bs, Kd.V_step h.row (fun k hk hlt => hm k hk.2.2.2.2 hlt), h.sn, h.sx, h.ls, h.ln, h.lx, h.lN⟩
theorem WY.step {w W W' : World} {P C M : Obj} {gn gx gs N : Nat} {sv : Value} {s : List Int} {n x r : Int} (h : WY w P C M gn gx gs N sv s n x r W) (hb : Below W.heap.size W W') : WY w P C M gn gx gs N sv s n x r W' :=
  h.moved (fun k _ hk => hb.block k hk) (h.wx.wb.below.trans (hb.mono h.wx.wb.below.size))
theorem WY.kept {w W W' : World} {P C M : Obj} {gn gx gs N : Nat} {sv : Value} {s : List Int} {n x r : Int} {row : Option Nat} (h : WY w P C M gn gx gs N sv s n x r W) (hg : W.grownBy W' row) (hne : ∀ q, row = some q → N ≤ q) : WY w P C M gn gx gs N sv s n x r W' := by
  have h1 := h.wx.ln
  have h2 := h.ln
  exact h.moved (fun k hk hlt => hg.block k hlt (fun e => by have := hne k e.symm; omega)) (h.wx.wb.below.grown hg h.wx.wb.below.size (fun k e => by have := hne k e; omega))
theorem WY.setN {w W : World} {P C M : Obj} {gn gx gs N : Nat} {sv : Value} {s : List Int} {n x r : Int} (h : WY w P C M gn gx gs N sv s n x r W) (n' : Int) : WY w P C M gn gx gs N sv s n' x r (W.setCell ⟨gn, 0, none⟩ (.int .i64 n')) := by
  have f : ∀ {k : Nat} {o : Obj}, k ≠ gn → W.heap[k]? = some o → (W.setCell ⟨gn, 0, none⟩ (.int .i64 n')).heap[k]? = some o := fun hk ho => (Below.heap_setCell _ _ _ _ hk).trans ho
  have h1 := h.wx.ln
  exact ⟨⟨⟨f (by omega) h.wx.wb.p, f (by omega) h.wx.wb.c, f (by omega) h.wx.wb.m, f (by omega) h.wx.wb.r, h.wx.wb.below.setCell (p := ⟨gn, 0, none⟩) (by show w.heap.size ≤ gn; omega) _⟩, blk_put h.wx.bn 0 _ rfl, f (fun e => h.wx.ne e.symm) h.wx.bx, h.wx.ne, h.wx.ln, h.wx.lx⟩, f h.sn h.bs, Kd.V_far (p := ⟨gn, 0, none⟩) h.row (fun _ hk => hk.2.1) _, h.sn, h.sx, h.ls, h.ln, h.lx, h.lN⟩
theorem WY.setX {w W : World} {P C M : Obj} {gn gx gs N : Nat} {sv : Value} {s : List Int} {n x r : Int} (h : WY w P C M gn gx gs N sv s n x r W) (x' : Int) : WY w P C M gn gx gs N sv s n x' r (W.setCell ⟨gx, 0, none⟩ (.int .i64 x')) := by
  have f : ∀ {k : Nat} {o : Obj}, k ≠ gx → W.heap[k]? = some o → (W.setCell ⟨gx, 0, none⟩ (.int .i64 x')).heap[k]? = some o := fun hk ho => (Below.heap_setCell _ _ _ _ hk).trans ho
  have h1 := h.wx.lx
  exact ⟨⟨⟨f (by omega) h.wx.wb.p, f (by omega) h.wx.wb.c, f (by omega) h.wx.wb.m, f (by omega) h.wx.wb.r, h.wx.wb.below.setCell (p := ⟨gx, 0, none⟩) (by show w.heap.size ≤ gx; omega) _⟩, f h.wx.ne h.wx.bn, blk_put h.wx.bx 0 _ rfl, h.wx.ne, h.wx.ln, h.wx.lx⟩, f h.sx h.bs, Kd.V_far (p := ⟨gx, 0, none⟩) h.row (fun _ hk => hk.2.2.1) _, h.sn, h.sx, h.ls, h.ln, h.lx, h.lN⟩
theorem WY.setR {w W : World} {P C M : Obj} {gn gx gs N : Nat} {sv : Value} {s : List Int} {n x r : Int} (h : WY w P C M gn gx gs N sv s n x r W) (r' : Int) : WY w P C M gn gx gs N sv s n x r' (W.setCell ⟨w.heap.size + 1 + 1 + 1, 0, none⟩ (.int .i64 r')) := by
  have f : ∀ {k : Nat} {o : Obj}, k ≠ w.heap.size + 1 + 1 + 1 → W.heap[k]? = some o → (W.setCell ⟨w.heap.size + 1 + 1 + 1, 0, none⟩ (.int .i64 r')).heap[k]? = some o := fun hk ho => (Below.heap_setCell _ _ _ _ hk).trans ho
  have h1 := h.wx.ln
  have h2 := h.wx.lx
  have h3 := h.ls
  exact ⟨⟨⟨f (by omega) h.wx.wb.p, f (by omega) h.wx.wb.c, f (by omega) h.wx.wb.m, blk_put h.wx.wb.r 0 _ rfl, h.wx.wb.below.setCell (p := ⟨w.heap.size + 1 + 1 + 1, 0, none⟩) (by show w.heap.size ≤ w.heap.size + 1 + 1 + 1; omega) _⟩, f (by omega) h.wx.bn, f (by omega) h.wx.bx, h.wx.ne, h.wx.ln, h.wx.lx⟩, f (by omega) h.bs, Kd.V_far (p := ⟨w.heap.size + 1 + 1 + 1, 0, none⟩) h.row (fun k hk => by have := hk.1; show k ≠ w.heap.size + 1 + 1 + 1; omega) _, h.sn, h.sx, h.ls, h.ln, h.lx, h.lN⟩
/-- n and next when so many places have come. -/
def stW (s : List Int) (sl : Int) (is : List Int) (n x : Int) : Int × Int := is.foldl (fun q i => (wrap64 (q.1 - rd s i), wrap64 (q.2 + sl))) (n, x)
theorem stW_snoc (s : List Int) (sl : Int) (is : List Int) (i n x : Int) : stW s sl (is ++ [i]) n x = (wrap64 ((stW s sl is n x).1 - rd s i), wrap64 ((stW s sl is n x).2 + sl)) := by simp [stW]
/-- Between two rounds. -/
def WI (w : World) (P C M : Obj) (gn gx gs N : Nat) (sv : Value) (s : List Int) (n x most sl at_ : Int) (B : Int) (pre : List (Pl B)) (W : World) : Prop :=
  (∀ q, waitG s most sl at_ (pre.map Subtype.val ++ q) n x = waitG s most sl at_ q (stW s sl (pre.map Subtype.val) n x).1 (stW s sl (pre.map Subtype.val) n x).2) ∧ WY w P C M gn gx gs N sv s (stW s sl (pre.map Subtype.val) n x).1 (stW s sl (pre.map Subtype.val) n x).2 0 W
/-- A round has left. -/
def WJ (w : World) (P C M : Obj) (gn gx gs N : Nat) (sv : Value) (s : List Int) (n x most sl at_ : Int) (B : Int) (c : Code) (pre : List (Pl B)) (W : World) : Prop :=
  ∃ v, (∀ q, waitG s most sl at_ (pre.map Subtype.val ++ q) n x = v) ∧ (c = .exit 0 ∧ v = 0 ∨ c = .ret) ∧ ∃ n' x', WY w P C M gn gx gs N sv s n' x' v W
theorem WI.own {w : World} {P C M : Obj} {gn gx gs N : Nat} {sv : Value} {s : List Int} {n x most sl at_ B : Int} {N' : Nat} (hN : N ≤ N') : OwnFrom N' (WI w P C M gn gx gs N sv s n x most sl at_ B) :=
  fun _ _ _ _ hs hg hr => ⟨hs.1, hs.2.kept hg (fun q e => by have := (hr q e).1; omega)⟩
theorem WJ.own {w : World} {P C M : Obj} {gn gx gs N : Nat} {sv : Value} {s : List Int} {n x most sl at_ B : Int} {N' : Nat} (hN : N ≤ N') (c : Code) : OwnFrom N' (WJ w P C M gn gx gs N sv s n x most sl at_ B c) :=
  fun _ _ _ _ hs hg hr => by
    obtain ⟨v, h1, h2, n', x', h3⟩ := hs
    exact ⟨v, h1, h2, n', x', h3.kept hg (fun q e => by have := (hr q e).1; omega)⟩
theorem keepsO {W W' : World} (hb : Below W.heap.size W W') : KeepsOthers W W' := ⟨hb.size, fun _ _ h _ => blk_below h hb⟩
theorem results_cell_one {P : Program} {fn : Func} {p : Tmp} {ty : TypeId} (h : fn.results = #[.cell p ty]) (tmps : Array Value) (w : World) (g : Nat) (v : Value) (d : TypeDesc) (hp : tmps.getD p undef = .pointer (some ⟨g, 0, none⟩)) (hu : P.underlying ty = some d) (hd : (match d with | .struct _ | .array _ _ => true | _ => false) = false) (hc : w.cell? ⟨g, 0, none⟩ = some v) : (results fn tmps).run P w = .ok v w := by
  have hp' : tmps[p]?.getD undef = .pointer (some ⟨g, 0, none⟩) := by simpa using hp
  have hagg : (isAgg ty).run P w = .ok false w := by
    unfold isAgg
    rw [Sem.run_bind, run_underlying hu w]
    cases d <;> simp_all
  simp [results, h, hp', asAddr, loadVar, Sem.run_bind, hagg, hc]
theorem wpIn_one {F : Fence} {n : Nat} {P : Program} {c : Code} {Q : Exit → Act → World → Prop} {a0 : Act} {w0 : World} {A : Act} {W' : World} (h : c.wpIn F n P (fun e a w => e = .normal ∧ a = A ∧ w = W') a0 w0) (k : Q .normal A W') : c.wpIn F n P Q a0 w0 :=
  wpIn_mono h (fun _ _ _ hq => by obtain ⟨rfl, rfl, rfl⟩ := hq; exact k)
theorem box_facts {W : World} {g : Nat} {v : Value} {t : TypeId} (h : W.heap[g]? = some (.cells #[v] t (0, 0))) : Aside0 (W.heap[g]? = some (.cells #[v] t (0, 0))) ∧ W.cell? ⟨g, 0, none⟩ = some v ∧ W.frozen? ⟨g, 0, none⟩ = false := ⟨⟨h⟩, by rw [blk_cell h]; rfl, blk_frozen h 0⟩
set_option maxRecDepth 100000 in
set_option maxHeartbeats 8000000 in
theorem ring_wait.calls (k : Nat) (a0_0 : Int) (a0_1 : Int) (a0_2 : Int) (a0_3 : Int) (a1_0 : Int) (a1_1 : Int) (A1_2 : Option Addr) (c1_2 : Nat) (l1_2 : List Int) (A1_3 : Option Addr) (c1_3 : Nat) (l1_3 : List S54) (a2 : Int) (r : Int) (w : World) (hr1_2 : Kd.C (Kd.int .i64) w A1_2 l1_2.length l1_2) (hc1_2 : l1_2.length ≤ c1_2) (hr1_3 : Kd.C k54 w A1_3 l1_3.length l1_3) (hc1_3 : l1_3.length ≤ c1_3) (h : ring_wait.f k a0_0 a0_1 a0_2 a0_3 a1_0 a1_1 l1_2 l1_3 a2 = some r) :
  Calls Try.prog 26 #[.agg #[.int .i64 a0_0, .int .i64 a0_1, .int .i64 a0_2, .int .i64 a0_3], .agg #[.int .i64 a1_0, .int .i64 a1_1, .slice A1_2 l1_2.length c1_2, .slice A1_3 l1_3.length c1_3], .int .i64 a2] w fun e w' => e = .returned (.int .i64 r) ∧ Below w.heap.size w w' := by
 unfold ring_wait.f at h
 obtain ⟨n, hn, h⟩ := Option.bind_eq_some_iff.1 h
 obtain ⟨a, ha, h⟩ := Option.bind_eq_some_iff.1 h
 obtain ⟨sl, hsl, h⟩ := Option.bind_eq_some_iff.1 h
 obtain ⟨s, hs, h⟩ := Option.bind_eq_some_iff.1 h
 obtain ⟨c, hc, h⟩ := Option.bind_eq_some_iff.1 h
 split at h
 case isFalse => cases h
 rename_i hif
 obtain ⟨b1, b2, hl, ha1, ha2, hc1, hc2⟩ := hif
 have RES := Aside0.mk (Option.some.inj h)
 have HR := Aside0.mk hr1_2
 have HR3 := Aside0.mk hr1_3
 have HN := Aside0.mk hn
 have HA := Aside0.mk ha
 have HSL := Aside0.mk hsl
 have HS := Aside0.mk hs
 have HC := Aside0.mk hc
 have HL := Aside0.mk hl
 clear h ha hc hn hsl hs hr1_2 hr1_3 hl
 have W4 := Aside0.mk (show WB w (.cells #[.int .i64 a0_0, .int .i64 a0_1, .int .i64 a0_2, .int .i64 a0_3] 23 (0, 0)) (.cells #[.int .i64 a1_0, .int .i64 a1_1, .slice A1_2 l1_2.length c1_2, .slice A1_3 l1_3.length c1_3] 27 (0, 0)) (.cells #[.int .i64 a2] 3 (0, 0)) (.cells #[.int .i64 0] 3 (0, 0)) ((((w.alloc (.cells #[.int .i64 a0_0, .int .i64 a0_1, .int .i64 a0_2, .int .i64 a0_3] 23)).alloc (.cells #[.int .i64 a1_0, .int .i64 a1_1, .slice A1_2 l1_2.length c1_2, .slice A1_3 l1_3.length c1_3] 27)).alloc (.cells #[.int .i64 a2] 3)).alloc (.cells #[.int .i64 0] 3)) from ⟨blk_alloc (blk_alloc (blk_alloc (blk_at rfl _ _) _) _) _, blk_alloc (blk_alloc (blk_at (by simp) _ _) _) _, blk_alloc (blk_at (by simp) _ _) _, blk_at (by simp) _ _, ((((Below.refl w.heap.size w).alloc (Nat.le_refl _) _).alloc (by simp) _).alloc (by simp; omega) _).alloc (by simp; omega) _⟩)
 refine (callsIn_wide (n := 5)).1 ?_
 refine callsIn_of_wp_marks Try.func26 rfl trivial ?_ rfl
 simp only [Try.ntmps26, List.size_toArray, List.length_cons, List.length_nil, Nat.reduceAdd, Nat.reduceSub, Array.replicate_succ, Array.replicate_zero, List.push_toArray, List.append_toArray, List.nil_append, List.cons_append]
 refine wpIn_wide.2 ?_
 have dw : IntKind.i64.wrap (a + 1) = a + 1 := IntWalk.i64_in _ ⟨by omega, by omega⟩
 go_wp2_with (go_at_call 24; refine (ring_total.calls k a1_0 a1_1 A1_2 c1_2 l1_2 A1_3 c1_3 l1_3 n _ (Kd.C_below HR.out W4.out.below) hc1_2 (Kd.C_below HR3.out W4.out.below) hc1_3 HN.out).mono ?_; rintro e w1 ⟨rfl, hb⟩; have WW1 := Aside0.mk (W4.out.step hb); clear hb)
 obtain ⟨q0, q1, q2, q3⟩ := ce4 (Aside0.mk WW1.out.p)
 obtain ⟨z0, _, _, _⟩ := ce4 (Aside0.mk WW1.out.c)
 have hS1 := Aside0.mk (And.intro q0 (And.intro q1 (And.intro q2 (And.intro q3 (And.intro z0 WW1.out)))))
 have hbn := blk_new w1 (.cells #[.int .i64 n] 3)
 have hS2 := Aside0.mk (keepS WB.step (below_drew (below_alloc (Below.refl _ _) (.cells #[.int .i64 n] 3))) hS1.out)
 go_region_held3 (fun w' => w'.cell? ⟨w.heap.size, 0, none⟩ = some (.int .i64 a0_0) ∧ w'.cell? ⟨w.heap.size, 1, none⟩ = some (.int .i64 a0_1) ∧ w'.cell? ⟨w.heap.size, 2, none⟩ = some (.int .i64 a0_2) ∧ w'.cell? ⟨w.heap.size, 3, none⟩ = some (.int .i64 a0_3) ∧ w'.cell? ⟨w.heap.size + 1, 0, none⟩ = some (.int .i64 a1_0) ∧ WB w (.cells #[.int .i64 a0_0, .int .i64 a0_1, .int .i64 a0_2, .int .i64 a0_3] 23 (0, 0)) (.cells #[.int .i64 a1_0, .int .i64 a1_1, .slice A1_2 l1_2.length c1_2, .slice A1_3 l1_3.length c1_3] 27 (0, 0)) (.cells #[.int .i64 a2] 3 (0, 0)) (.cells #[.int .i64 0] 3 (0, 0)) w')
  ((first | assumption | exact keepS WB.step (by assumption) (by assumption) | exact keepS WB.step (below_alloc (Below.refl _ _) _) (by assumption) | exact keepS WB.step (below_drew (below_alloc (Below.refl _ _) _)) hS1.out | exact keepS WB.step (below_alloc (Below.refl _ _) _) HS5.out | exact keepS WB.step (below_alloc (Below.refl _ _) _) HS4.out | exact keepS WB.step (below_alloc (Below.refl _ _) _) hS2.out | exact keepSet (of6 HS4.out) rfl _ HS5.out | exact keepSet (of6 hS2.out) (by first | rfl | simp) _ HS5.out))
  ((first | (go_at_call 25; refine (ring_number.calls a0_0 a0_1 a0_2 a0_3 a1_0 a _ HA.out).mono ?_; rintro e w4 ⟨rfl, hb⟩; (try (first | (have hz := box_facts (keepNew hb); (try simp only [World.size_alloc] at hz); obtain ⟨HX, hxc, hxf⟩ := hz) | (have hz := box_facts (keepNewD hb); (try simp only [World.size_alloc] at hz); obtain ⟨HX, hxc, hxf⟩ := hz))); (first | (have HS4 := Aside0.mk (keepS WB.step hb (by assumption))) | (have HS4 := Aside0.mk (keepS WB.step (below_step (below_drew (below_alloc (Below.refl _ _) _)) hb) hS1.out)))) | (go_at_call 36; refine (policy_Slot.calls a0_0 a0_1 a0_2 a0_3 sl _ HSL.out).mono ?_; rintro e w5 ⟨rfl, hb2⟩; (first | (have hz := box_facts (keepNew hb2); (try simp only [World.size_alloc] at hz); obtain ⟨HX, hxc, hxf⟩ := hz) | (have hz := box_facts (blk_below HX.out hb2); clear hxc hxf; (try simp only [World.size_alloc] at hz); obtain ⟨HX, hxc, hxf⟩ := hz) | skip); have HS5 := Aside0.mk (keepS WB.step hb2 (by assumption)))))
 -- way 1
 have hwx : WX w (.cells #[.int .i64 a0_0, .int .i64 a0_1, .int .i64 a0_2, .int .i64 a0_3] 23 (0, 0)) (.cells #[.int .i64 a1_0, .int .i64 a1_1, .slice A1_2 l1_2.length c1_2, .slice A1_3 l1_3.length c1_3] 27 (0, 0)) (.cells #[.int .i64 a2] 3 (0, 0)) (.cells #[.int .i64 0] 3 (0, 0)) w1.heap.size n w5.heap.size (IntKind.i64.wrap ((a + 1) * sl)) (w5.alloc (.cells #[.int .i64 (IntKind.i64.wrap ((a + 1) * sl))] 3)) := ⟨(of6 HS5.out).step (below_alloc (Below.refl _ _) _), blk_alloc (blk_below (blk_below (w := (w1.alloc (.cells #[.int .i64 n] 3)).drew) hbn hb) hb2) _, blk_new _ _, by have := hb.size; have := hb2.size; simp at *; omega, blk_lt WW1.out.r, blk_lt (of6 HS5.out).r⟩
 have HWX := Aside0.mk hwx
 clear hwx
 revert HWX
 generalize (w5.alloc (.cells #[.int .i64 (IntKind.i64.wrap ((a + 1) * sl))] 3)) = W3
 generalize w5.heap.size = gx
 intro HWX
 rotate_left
 -- way 2
 have hwx : WX w (.cells #[.int .i64 a0_0, .int .i64 a0_1, .int .i64 a0_2, .int .i64 a0_3] 23 (0, 0)) (.cells #[.int .i64 a1_0, .int .i64 a1_1, .slice A1_2 l1_2.length c1_2, .slice A1_3 l1_3.length c1_3] 27 (0, 0)) (.cells #[.int .i64 a2] 3 (0, 0)) (.cells #[.int .i64 0] 3 (0, 0)) w1.heap.size n w4.heap.size (IntKind.i64.wrap ((a + 1) * sl)) (w5.setCell ⟨w4.heap.size, 0, none⟩ (.int .i64 (IntKind.i64.wrap ((a + 1) * sl)))) := ⟨of6 (keepSet (of6 HS4.out) rfl _ HS5.out), blk_far (blk_below (blk_alloc (blk_below (w := (w1.alloc (.cells #[.int .i64 n] 3)).drew) hbn hb) _) hb2) (by show w1.heap.size ≠ w4.heap.size; have := hb.size; simp at *; omega) _, blk_put HX.out 0 _ rfl, by have := hb.size; simp at *; omega, blk_lt WW1.out.r, blk_lt (of6 HS4.out).r⟩
 have HWX := Aside0.mk hwx
 clear hwx
 revert HWX
 generalize (w5.setCell ⟨w4.heap.size, 0, none⟩ (.int .i64 (IntKind.i64.wrap ((a + 1) * sl)))) = W3
 generalize w4.heap.size = gx
 intro HWX
 rotate_left
 -- way 3
 have hwx : WX w (.cells #[.int .i64 a0_0, .int .i64 a0_1, .int .i64 a0_2, .int .i64 a0_3] 23 (0, 0)) (.cells #[.int .i64 a1_0, .int .i64 a1_1, .slice A1_2 l1_2.length c1_2, .slice A1_3 l1_3.length c1_3] 27 (0, 0)) (.cells #[.int .i64 a2] 3 (0, 0)) (.cells #[.int .i64 0] 3 (0, 0)) w1.heap.size n (w1.heap.size + 1) (IntKind.i64.wrap ((a + 1) * sl)) (w5.setCell ⟨w1.heap.size + 1, 0, none⟩ (.int .i64 (IntKind.i64.wrap ((a + 1) * sl)))) := ⟨of6 (keepSet (of6 hS2.out) (by first | rfl | simp) _ HS5.out), blk_far (blk_below (blk_below (w := ((w1.alloc (.cells #[.int .i64 n] 3)).alloc (.cells #[.int .i64 0] 3)).drew) (blk_alloc hbn _) hb) hb2) (by show w1.heap.size ≠ w1.heap.size + 1; omega) _, blk_put HX.out 0 _ rfl, by omega, blk_lt WW1.out.r, by have := blk_lt WW1.out.r; omega⟩
 have HWX := Aside0.mk hwx
 clear hwx
 revert HWX
 generalize (w5.setCell ⟨w1.heap.size + 1, 0, none⟩ (.int .i64 (IntKind.i64.wrap ((a + 1) * sl)))) = W3
 generalize w1.heap.size + 1 = gx
 intro HWX
 rotate_left
 all_goals
  clear hbn hS1 hS2 q0 q1 q2 q3 z0 hb hb2 HS4 HS5 dw
  obtain ⟨q0, q1, q2, q3⟩ := ce4 (Aside0.mk HWX.out.wb.p)
  obtain ⟨z0, z1, z2, z3⟩ := ce4 (Aside0.mk HWX.out.wb.c)
  have hcl := Kd.C_below HR.out HWX.out.wb.below
  have HCL := Aside0.mk hcl
  clear hcl
  go_wp2_with (go_at_call 37; refine (slices_Clone_int_int.calls A1_2 c1_2 l1_2 s _ HCL.out hc1_2 HS.out).mono ?_; rintro e w6 ⟨v, rfl, ho, hb⟩; obtain ⟨Av, cv, rfl⟩ := Kd.R_slice ho; have HO := Aside0.mk ho; have HW6 := Aside0.mk (HWX.out.step hb); clear ho hb q0 q1 q2 q3 z0 z1 z2 z3; obtain ⟨q0, q1, q2, q3⟩ := ce4 (Aside0.mk (blk_alloc HW6.out.wb.p (.cells #[.slice Av s.length cv] 24))); obtain ⟨z0, z1, z2, z3⟩ := ce4 (Aside0.mk (blk_alloc HW6.out.wb.c (.cells #[.slice Av s.length cv] 24))))
  have hbs := blk_new w6 (.cells #[.slice Av s.length cv] 24)
  have hwy : WY w (.cells #[.int .i64 a0_0, .int .i64 a0_1, .int .i64 a0_2, .int .i64 a0_3] 23 (0, 0)) (.cells #[.int .i64 a1_0, .int .i64 a1_1, .slice A1_2 l1_2.length c1_2, .slice A1_3 l1_3.length c1_3] 27 (0, 0)) (.cells #[.int .i64 a2] 3 (0, 0)) w1.heap.size gx w6.heap.size (w6.heap.size + 1) (.slice Av s.length cv) s n (IntKind.i64.wrap ((a + 1) * sl)) 0 (w6.alloc (.cells #[.slice Av s.length cv] 24)) :=
   ⟨HW6.out.step (below_alloc (Below.refl _ _) _), hbs, Kd.V_alloc (Kd.V_map (Kd.V_mono (Kd.R_V (base' := w.heap.size) (Kd.R_bound HO.out)) (fun k hk => by have := blk_lt HWX.out.bn; have := blk_lt HWX.out.bx; have := HWX.out.ln; omega)) (fun _ hf => hf)) _, by have := blk_lt HW6.out.bn; omega, by have := blk_lt HW6.out.bx; omega, by have := blk_lt HW6.out.wb.r; omega, by have := blk_lt HW6.out.bn; omega, by have := blk_lt HW6.out.bx; omega, by omega⟩
  have HWY := Aside0.mk hwy
  clear hwy hbs q0 q1 q2 q3 z0 z1 z2 z3 HWX HO HCL
  have hsz : (w6.alloc (.cells #[.slice Av s.length cv] 24)).heap.size = w6.heap.size + 1 := World.size_alloc _ _
  revert HWY hsz
  generalize (w6.alloc (.cells #[.slice Av s.length cv] 24)) = w7
  generalize hy0 : IntKind.i64.wrap ((a + 1) * sl) = y0
  intro HWY hsz
  have HY0 := Aside0.mk hy0
  clear hy0
  have HSZ := Aside0.mk hsz
  clear hsz
  refine (gone_calls _ _ _ _ _ _ _).mono ?_
  rintro e w8 ⟨rfl, rfl⟩
  go_wp2
  have h0 : WI w (.cells #[.int .i64 a0_0, .int .i64 a0_1, .int .i64 a0_2, .int .i64 a0_3] 23 (0, 0)) (.cells #[.int .i64 a1_0, .int .i64 a1_1, .slice A1_2 l1_2.length c1_2, .slice A1_3 l1_3.length c1_3] 27 (0, 0)) (.cells #[.int .i64 a2] 3 (0, 0)) w1.heap.size gx w6.heap.size (w6.heap.size + 1) (.slice Av s.length cv) s n y0 a2 sl a1_0 a0_3 [] (((w7.alloc (.cells #[.int .i64 a0_0, .int .i64 a0_1, .int .i64 a0_2, .int .i64 a0_3] 23)).alloc (.cells #[.int .i64 a1_0] 3)).alloc (.cells #[.int .i64 (wrap64 (a1_0 + a0_2))] 3)) := ⟨fun q => rfl, ((HWY.out.step (below_alloc (Below.refl _ _) _)).step (below_alloc (Below.refl _ _) _)).step (below_alloc (Below.refl _ _) _)⟩
  have H0 := Aside0.mk h0
  clear h0
  refine (wpIn_wide (n := 5)).1 ?_
  refine wpIn_rangeFunc_ownF (α := Pl a0_3) rfl (by omega) (gf := 39) (lb := #[.pointer (some ⟨w7.heap.size, 0, none⟩), .pointer (some ⟨w7.heap.size + 1, 0, none⟩), .pointer (some ⟨w7.heap.size + 1 + 1, 0, none⟩)]) rfl trivial (enters_of Try.func39 (by kernel_rfl) rfl)
   (gone1_stops 4 (by omega) w7.heap.size (w7.heap.size + 1) (w7.heap.size + 1 + 1) a0_0 a0_1 a0_2 a0_3 a1_0 (wrap64 (a1_0 + a0_2)) a c _ (blk_alloc (blk_alloc (blk_new _ _) _) _) (blk_alloc (blk_at (by simp) _ _) _) (blk_at (by simp) _ _) HA.out HC.out b1 b2 ha1 ha2 hc1 hc2)
   (fun h k x => k (h x)) (fun W l o o' hl _ _ _ hx => (World.putObj_heap_other (by simp at hl; omega)).trans hx) (Below.refl _ _) (fun _ => rfl)
   (WI w (.cells #[.int .i64 a0_0, .int .i64 a0_1, .int .i64 a0_2, .int .i64 a0_3] 23 (0, 0)) (.cells #[.int .i64 a1_0, .int .i64 a1_1, .slice A1_2 l1_2.length c1_2, .slice A1_3 l1_3.length c1_3] 27 (0, 0)) (.cells #[.int .i64 a2] 3 (0, 0)) w1.heap.size gx w6.heap.size (w6.heap.size + 1) (.slice Av s.length cv) s n y0 a2 sl a1_0 a0_3) (WJ w (.cells #[.int .i64 a0_0, .int .i64 a0_1, .int .i64 a0_2, .int .i64 a0_3] 23 (0, 0)) (.cells #[.int .i64 a1_0, .int .i64 a1_1, .slice A1_2 l1_2.length c1_2, .slice A1_3 l1_3.length c1_3] 27 (0, 0)) (.cells #[.int .i64 a2] 3 (0, 0)) w1.heap.size gx w6.heap.size (w6.heap.size + 1) (.slice Av s.length cv) s n y0 a2 sl a1_0 a0_3)
   (WI.own (by have := HSZ.out; simp; omega)) (WJ.own (by have := HSZ.out; simp; omega))
   H0.out
   (fun x => { tmps := #[.agg #[.int .i64 a0_0, .int .i64 a0_1, .int .i64 a0_2, .int .i64 a0_3], .agg #[.int .i64 a1_0, .int .i64 a1_1, .slice A1_2 l1_2.length c1_2, .slice A1_3 l1_3.length c1_3], .int .i64 a2, .pointer (some ⟨w.heap.size, 0, none⟩), .pointer (some ⟨w.heap.size + 1, 0, none⟩), .pointer (some ⟨w.heap.size + 1 + 1, 0, none⟩), .pointer (some ⟨w.heap.size + 1 + 1 + 1, 0, none⟩), .pointer (some ⟨w1.heap.size, 0, none⟩), .pointer (some ⟨gx, 0, none⟩), .pointer (some ⟨w6.heap.size, 0, none⟩), .int .i64 x.1, .agg #[.int .i64 a1_0, .int .i64 a1_1, .slice A1_2 l1_2.length c1_2, .slice A1_3 l1_3.length c1_3], .int .i64 n, .agg #[.int .i64 a0_0, .int .i64 a0_1, .int .i64 a0_2, .int .i64 a0_3], .pointer (some ⟨w.heap.size + 1, 0, none⟩), .int .i64 a1_0, .int .i64 a, .int .i64 (a + 1), .agg #[.int .i64 a0_0, .int .i64 a0_1, .int .i64 a0_2, .int .i64 a0_3], .int .i64 sl, .int .i64 y0, .pointer (some ⟨w.heap.size + 1, 2, none⟩), .slice A1_2 l1_2.length c1_2, .slice Av s.length cv, .agg #[.int .i64 a0_0, .int .i64 a0_1, .int .i64 a0_2, .int .i64 a0_3], .pointer (some ⟨w.heap.size + 1, 0, none⟩), .int .i64 a1_0, .pointer (some ⟨w.heap.size + 1, 0, none⟩), .int .i64 a1_0, .pointer (some ⟨w.heap.size, 2, none⟩), .int .i64 a0_2, .int .i64 (wrap64 (a1_0 + a0_2)), .func (.func 39) #[] #[.pointer (some ⟨w7.heap.size, 0, none⟩), .pointer (some ⟨w7.heap.size + 1, 0, none⟩), .pointer (some ⟨w7.heap.size + 1 + 1, 0, none⟩)], .int .i64 x.1, undef, undef, undef, undef, undef, undef, undef, undef, undef, undef, undef, undef, undef, undef, undef, undef, undef, undef, undef, undef], defers := [] }) ?assign ?body ?done ?stop
  case assign =>
   intro l x W K hK
   gi_wp2
   exact hK
  case body =>
   rintro ll pre x W hi _
   obtain ⟨hG, hY⟩ := hi
   obtain ⟨x, x0, x1⟩ := x
   revert hG hY
   generalize hst : stW s sl (pre.map Subtype.val) n y0 = st
   intro hG hY
   have HST := Aside0.mk hst
   clear hst
   have HG := Aside0.mk hG
   have HY := Aside0.mk hY
   clear hG hY
   clear HWY H0 HW6
   have hmx : Try.prog.follows .mixedOrders = true := by kernel_rfl
   have hln : (s.length : Int) = a0_3 := HL.out
   obtain ⟨ad, rfl, he⟩ := Kd.at_int (Kd.V_reads' HY.out.row).2.2 x x0 (by omega)
   have xl : x < (s.length : Int) := by omega
   have n0 : W.cell? ⟨w1.heap.size, 0, none⟩ = some (.int .i64 st.1) := by rw [blk_cell HY.out.wx.bn]; rfl
   have nf : W.frozen? ⟨w1.heap.size, 0, none⟩ = false := blk_frozen HY.out.wx.bn 0
   have m0 : W.cell? ⟨w.heap.size + 1 + 1, 0, none⟩ = some (.int .i64 a2) := by rw [blk_cell HY.out.wx.wb.m]; rfl
   have s0 : W.cell? ⟨w6.heap.size, 0, none⟩ = some (.slice (some ad) s.length cv) := by rw [blk_cell HY.out.bs]; rfl
   have b0 : W.cell? ⟨gx, 0, none⟩ = some (.int .i64 st.2) := by rw [blk_cell HY.out.wx.bx]; rfl
   have bf : W.frozen? ⟨gx, 0, none⟩ = false := blk_frozen HY.out.wx.bx 0
   have r0 : W.cell? ⟨w.heap.size + 1 + 1 + 1, 0, none⟩ = some (.int .i64 0) := by rw [blk_cell HY.out.wx.wb.r]; rfl
   have rf : W.frozen? ⟨w.heap.size + 1 + 1 + 1, 0, none⟩ = false := blk_frozen HY.out.wx.wb.r 0
   obtain ⟨z0, z1, z2, z3⟩ := ce4 (Aside0.mk HY.out.wx.wb.c)
   obtain ⟨q0, q1, q2, q3⟩ := ce4 (Aside0.mk HY.out.wx.wb.p)
   by_cases h1 : st.1 ≤ a2
   ·have h1t : decide (st.1 ≤ a2) = true := decide_eq_true h1
    gi_wp2
    refine ⟨KeepsOthers.refl _, 0, fun q => ?_, .inl ⟨rfl, rfl⟩, _, _, HY.out⟩
    rw [List.map_append, List.map_singleton, List.append_assoc, HG.out]
    simp only [List.singleton_append, waitG, if_pos h1]
   ·have h1t : decide (st.1 ≤ a2) = false := decide_eq_false h1
    gi_wp2
    apply wpIn_one
    ·gi_region_with_o (fail "no call")
     all_goals exact ⟨rfl, rfl, rfl⟩
    have HY1 := Aside0.mk ((HY.out.setN (IntKind.i64.wrap (st.1 - rd s x))).step (below_drew (Below.refl _ _)))
    have hne : w7.heap.size ≠ w1.heap.size := by have := HSZ.out; have := HY.out.ln; omega
    have KC := Aside0.mk (show KeepCap (.cells #[.int .i64 a0_0, .int .i64 a0_1, .int .i64 a0_2, .int .i64 a0_3] 23 (0, 0)) w7.heap.size W ((W.setCell ⟨w1.heap.size, 0, none⟩ (.int .i64 (IntKind.i64.wrap (st.1 - rd s x)))).drew) from fun hx => blk_drew ((Below.heap_setCell _ _ _ _ hne).trans hx))
    have KO := Aside0.mk ((KeepsOthers.setCell W ⟨w1.heap.size, 0, none⟩ (.int .i64 (IntKind.i64.wrap (st.1 - rd s x)))).trans (KeepsOthers.drew _))
    clear HY n0 nf m0 s0 b0 bf r0 rf z0 z1 z2 z3 q0 q1 q2 q3 he hne
    revert HY1 KC KO
    generalize ((W.setCell ⟨w1.heap.size, 0, none⟩ (.int .i64 (IntKind.i64.wrap (st.1 - rd s x)))).drew) = W2
    generalize hn1 : IntKind.i64.wrap (st.1 - rd s x) = n1
    intro HY1 KC KO
    have n0 : W2.cell? ⟨w1.heap.size, 0, none⟩ = some (.int .i64 n1) := by rw [blk_cell HY1.out.wx.bn]; rfl
    have nf : W2.frozen? ⟨w1.heap.size, 0, none⟩ = false := blk_frozen HY1.out.wx.bn 0
    have m0 : W2.cell? ⟨w.heap.size + 1 + 1, 0, none⟩ = some (.int .i64 a2) := by rw [blk_cell HY1.out.wx.wb.m]; rfl
    have b0 : W2.cell? ⟨gx, 0, none⟩ = some (.int .i64 st.2) := by rw [blk_cell HY1.out.wx.bx]; rfl
    have bf : W2.frozen? ⟨gx, 0, none⟩ = false := blk_frozen HY1.out.wx.bx 0
    have r0 : W2.cell? ⟨w.heap.size + 1 + 1 + 1, 0, none⟩ = some (.int .i64 0) := by rw [blk_cell HY1.out.wx.wb.r]; rfl
    have rf : W2.frozen? ⟨w.heap.size + 1 + 1 + 1, 0, none⟩ = false := blk_frozen HY1.out.wx.wb.r 0
    obtain ⟨z0, z1, z2, z3⟩ := ce4 (Aside0.mk HY1.out.wx.wb.c)
    obtain ⟨q0, q1, q2, q3⟩ := ce4 (Aside0.mk HY1.out.wx.wb.p)
    by_cases h2 : n1 ≤ a2
    ·have h2t : decide (n1 ≤ a2) = true := decide_eq_true h2
     gi_wp2
     refine ⟨KO.out.trans (KeepsOthers.setCell _ _ _), wrap64 (st.2 - a1_0), fun q => ?_, .inr rfl, _, _, HY1.out.setR _⟩
     rw [List.map_append, List.map_singleton, List.append_assoc, HG.out]
     have hn1' : wrap64 (st.1 - rd s x) = n1 := (IntWalk.i64_left _).symm.trans hn1
     simp only [List.singleton_append, waitG, if_neg (show ¬ st.1 ≤ a2 by omega), hn1', if_pos h2]
    ·have h2t : decide (n1 ≤ a2) = false := decide_eq_false h2
     gi_wp2
     gi_region_with_o (gi_at_call 36; refine (CallsIn.inRound ll (callsIn_wide.2 (policy_Slot.calls a0_0 a0_1 a0_2 a0_3 sl _ HSL.out))).mono ?_; rintro e w5 ⟨rfl, hb⟩; have HY2 := Aside0.mk ((HY1.out.step (below_drew (Below.refl _ _))).step hb); have KC2 := Aside0.mk (fun (o : Obj) (hx : W2.heap[w7.heap.size]? = some o) => blk_below (blk_drew hx) hb); have KO2 := Aside0.mk (keepsO (below_step (below_drew (Below.refl _ _)) hb)); have b1 : w5.cell? ⟨gx, 0, none⟩ = some (.int .i64 st.2) := (by rw [blk_cell HY2.out.wx.bx]; rfl); have bf1 : w5.frozen? ⟨gx, 0, none⟩ = false := blk_frozen HY2.out.wx.bx 0; clear hb)
     all_goals
      gi_wp2
      have hn1' : wrap64 (st.1 - rd s x) = n1 := (IntWalk.i64_left _).symm.trans hn1
      have hst' : stW s sl ((pre ++ [(⟨x, x0, x1⟩ : Pl a0_3)]).map Subtype.val) n y0 = (n1, wrap64 (st.2 + sl)) := by
       rw [List.map_append, List.map_singleton, stW_snoc, HST.out]
       show (wrap64 (st.1 - rd s x), wrap64 (st.2 + sl)) = _
       rw [hn1']
      have hnx : w7.heap.size ≠ gx := by have := HSZ.out; have := HY2.out.lx; omega
      refine ⟨KO.out.trans (KO2.out.trans (KeepsOthers.setCell _ _ _)), fun hx => (Below.heap_setCell _ _ _ _ hnx).trans (KC2.out _ (KC.out hx)), ?_⟩
      unfold WI
      rw [hst']
      refine ⟨fun q => ?_, ?_⟩
      ·rw [List.map_append, List.map_singleton, List.append_assoc, HG.out]
       simp only [List.singleton_append, waitG, if_neg (show ¬ st.1 ≤ a2 by omega), hn1', if_neg (show ¬ n1 ≤ a2 by omega)]
      ·have hx2 := HY2.out.setX (wrap64 (st.2 + sl))
       first | exact hx2 | (rw [← IntWalk.i64_left] at hx2 ⊢; exact hx2) | (rw [← IntWalk.i64_left] at hx2; exact hx2)
  case done =>
   rintro D ys W hD rfl hi hK
   obtain ⟨hG, hY⟩ := hi
   have HY := Aside0.mk hY
   have r0 : W.cell? ⟨w.heap.size + 1 + 1 + 1, 0, none⟩ = some (.int .i64 0) := by rw [blk_cell HY.out.wx.wb.r]; rfl
   have rf : W.frozen? ⟨w.heap.size + 1 + 1 + 1, 0, none⟩ = false := blk_frozen HY.out.wx.wb.r 0
   clear hY
   have hD' : w.heap.size + 1 + 1 + 1 < D := by
    have := HSZ.out
    have := HY.out.ls
    simp at hD
    omega
   have hr0 : r = 0 := by
    have h1 := hG []
    rw [List.append_nil] at h1
    rw [show (upS a0_3 (a + 1) b1 (by omega) (goneN a0_3 (a + 1) c)).map Subtype.val = goneL a0_3 (a + 1) c from upS_val _ _ _ _ _] at h1
    have h2 := RES.out
    have h3 := HY0.out
    rw [IntWalk.i64_left] at h3
    rw [h3, h1] at h2
    rw [← h2]
    rfl
   clear hG
   gi_wp2
   go_wp2
   have hK' : (W.setCell ⟨w.heap.size + 1 + 1 + 1, 0, none⟩ (.int .i64 0)).heap[D]? = some (.deferred (some [])) := (Below.heap_setCell _ _ _ _ (by show D ≠ w.heap.size + 1 + 1 + 1; omega)).trans hK
   have hb0 : (W.setCell ⟨w.heap.size + 1 + 1 + 1, 0, none⟩ (.int .i64 0)).heap[w.heap.size + 1 + 1 + 1]? = some (.cells #[.int .i64 0] 3 (0, 0)) := blk_put HY.out.wx.wb.r 0 _ rfl
   have hbel : Below w.heap.size w (W.setCell ⟨w.heap.size + 1 + 1 + 1, 0, none⟩ (.int .i64 0)) := HY.out.wx.wb.below.setCell (p := ⟨w.heap.size + 1 + 1 + 1, 0, none⟩) (by show w.heap.size ≤ w.heap.size + 1 + 1 + 1; omega) _
   refine ⟨by simp, .inl ⟨_, _, rfl, run_takeDeferred hK', ?_⟩⟩
   refine ⟨_, results_cell_one rfl _ _ (w.heap.size + 1 + 1 + 1) (.int .i64 0) _ rfl Try.underlying3 rfl (by rw [blk_cell ((World.putObj_heap_other (by omega)).trans hb0)]; rfl), by rw [hr0], hbel.trans (belowK_b (w := w) (Nat.le_refl _) _ D _ _ (by omega) hK' rfl rfl)⟩
  case stop =>
   rintro D cc pre W hD hp hi hK
   obtain ⟨v, hv, hc, n', x', hY⟩ := hi
   have HY := Aside0.mk hY
   clear hY
   have r0 : W.cell? ⟨w.heap.size + 1 + 1 + 1, 0, none⟩ = some (.int .i64 v) := by rw [blk_cell HY.out.wx.wb.r]; rfl
   have rf : W.frozen? ⟨w.heap.size + 1 + 1 + 1, 0, none⟩ = false := blk_frozen HY.out.wx.wb.r 0
   have hD' : w.heap.size + 1 + 1 + 1 < D := by
    have := HSZ.out
    have := HY.out.ls
    simp at hD
    omega
   have hr : r = v := by
    obtain ⟨q, hq⟩ := hp
    have h1 := hv (q.map Subtype.val)
    rw [← List.map_append, hq] at h1
    rw [show (upS a0_3 (a + 1) b1 (by omega) (goneN a0_3 (a + 1) c)).map Subtype.val = goneL a0_3 (a + 1) c from upS_val _ _ _ _ _] at h1
    have h2 := RES.out
    have h3 := HY0.out
    rw [IntWalk.i64_left] at h3
    rw [h3, h1] at h2
    exact h2.symm
   clear hv
   rcases hc with ⟨rfl, hv0⟩ | rfl
   ·have hr0 : r = 0 := hr.trans hv0
    gi_wp2
    go_wp2
    have hK' : (W.setCell ⟨w.heap.size + 1 + 1 + 1, 0, none⟩ (.int .i64 0)).heap[D]? = some (.deferred (some [])) := (Below.heap_setCell _ _ _ _ (by show D ≠ w.heap.size + 1 + 1 + 1; omega)).trans hK
    have hb0 : (W.setCell ⟨w.heap.size + 1 + 1 + 1, 0, none⟩ (.int .i64 0)).heap[w.heap.size + 1 + 1 + 1]? = some (.cells #[.int .i64 0] 3 (0, 0)) := blk_put HY.out.wx.wb.r 0 _ rfl
    have hbel : Below w.heap.size w (W.setCell ⟨w.heap.size + 1 + 1 + 1, 0, none⟩ (.int .i64 0)) := HY.out.wx.wb.below.setCell (p := ⟨w.heap.size + 1 + 1 + 1, 0, none⟩) (by show w.heap.size ≤ w.heap.size + 1 + 1 + 1; omega) _
    refine ⟨by simp, .inl ⟨_, _, rfl, run_takeDeferred hK', ?_⟩⟩
    refine ⟨_, results_cell_one rfl _ _ (w.heap.size + 1 + 1 + 1) (.int .i64 0) _ rfl Try.underlying3 rfl (by rw [blk_cell ((World.putObj_heap_other (by omega)).trans hb0)]; rfl), by rw [hr0], hbel.trans (belowK_b (w := w) (Nat.le_refl _) _ D _ _ (by omega) hK' rfl rfl)⟩
   ·gi_wp2
    refine ⟨by simp, .inl ⟨_, _, rfl, run_takeDeferred hK, ?_⟩⟩
    refine ⟨_, results_cell_one rfl _ _ (w.heap.size + 1 + 1 + 1) (.int .i64 v) _ rfl Try.underlying3 rfl (by rw [blk_cell ((World.putObj_heap_other (by omega)).trans HY.out.wx.wb.r)]; rfl), by rw [hr], HY.out.wx.wb.below.trans (belowK_b (w := w) (Nat.le_refl _) _ D _ _ (by omega) hK rfl rfl)⟩

end Go.Proofs.Ytalcmlgkdkbbaaa.Q
