/- The statement GrowMoves: whatever the input, the law's function returns true and leaves its arguments as they were. No further condition. -/
import Derived.Test.YtmnikjhnomphmaaTwoGrowMoves
import Derived.Test.YtmnikjhnomphmaaQ41
import Derived.RegionTactic
import Derived.ChangeAlike
import Derived.Deep.RegionWith
import Derived.Deep.RegionHeld3
import Derived.Test.YtmnikjhnomphmaaQ44
import Derived.Test.YtmnikjhnomphmaaQ45
import Derived.Test.YtmnikjhnomphmaaWFoot
import Derived.Deep.Slices
import Derived.OpenShut
import Derived.SizedLaws
import Derived.WideShapes
import Derived.Test.YtmnikjhnomphmaaQ0
import Derived.Test.YtmnikjhnomphmaaRows
import Derived.WalkKit
import Derived.ProofKit
import Derived.ShutString
import Derived.ChangeOld
import Derived.Below
namespace Go.Proofs.Ytmnikjhnomphmaa.La
open Go.RowKit Go.Proofs.Ytmnikjhnomphmaa.Zip Go.Proofs.YtmnikjhnomphmaaW.PrintWords Go.Proofs.YtmnikjhnomphmaaW.PrintLast Go.Proofs.YtmnikjhnomphmaaW.PrintMore Go.Proofs.Ytmnikjhnomphmaa.Q
set_option linter.unusedSimpArgs false
set_option linter.unusedVariables false
theorem texts_l0 (ks : List ByteArray) (hl : ks.length ≤ 1000000) : ∀ (k i : Nat), ks.length - i < k → sandglassref05_Texts.l0 k ks ks (i : Int) = some true
  | 0, i, h => absurd h (Nat.not_lt_zero _)
  | k + 1, i, h => by
    unfold sandglassref05_Texts.l0
    by_cases c : (i : Int) < (ks.length : Int)
    · rw [if_pos c, if_pos (by omega), if_pos c, if_pos rfl, show wrap64 ((i : Int) + 1) = ((i + 1 : Nat) : Int) by unfold wrap64; omega]
      exact texts_l0 ks hl k (i + 1) (by omega)
    · rw [if_neg c]
theorem texts_same (ks : List ByteArray) (hl : ks.length ≤ 1000000) : sandglassref05_Texts.f (ks.length + 1) ks ks = some true := by
  unfold sandglassref05_Texts.f
  rw [if_pos rfl]
  exact texts_l0 ks hl _ 0 (by omega)
theorem mm_keys {S : Nat → Prop} {gm b : Nat} {us : Int} {f : KF} {w : World} (h : MM S gm b us f w) {ks : List ByteArray} {us2 : Int} (hk : KeysIn f us2 ks) : Calls Try.prog 18 #[.pointer (some ⟨gm, 0, none⟩)] w fun e w' => ∃ v, e = .returned v ∧ Kd.R Kd.string 9 w' w.heap.size (fun _ => True) v ks ∧ Below w.heap.size w w' := by
  obtain ⟨L, hM, hS, hl⟩ := h.len
  have e : ks = L.map (fun p : Pr => p.f0) := by
    refine hk.same (u' := us) ⟨?_, fun k => ?_, by rw [List.length_map]; exact hS.len.symm⟩
    · rw [List.pairwise_map]; exact hS.srt
    · rw [List.mem_map]
      constructor
      · rintro ⟨⟨y, v⟩, hv, rfl⟩
        exact ⟨v, (hS.has y v).2 hv⟩
      · rintro ⟨v, hv⟩
        exact ⟨_, (hS.has k v).1 hv, rfl⟩
  rw [e]
  exact map_keys hM (by omega)
set_option maxHeartbeats 2000000 in
theorem m6_new_no (bi : Int) (w : World) (h : bi < 1 ∨ 8 < bi) : Calls Try.prog 13 #[.int .i64 bi] w fun e w' => e = .returned (.tuple #[.pointer none, .int .i64 1]) ∧ w' = w := by
  by_cases h1 : bi < 1
  · have d1 : decide (bi < 1) = true := decide_eq_true h1
    go_enter Try.func13, Try.ntmps13
    go_wp2
    go_ret2
    exact ⟨rfl, rfl⟩
  · have d1 : decide (bi < 1) = false := decide_eq_false h1
    have d2 : decide (8 < bi) = true := decide_eq_true (by omega)
    go_enter Try.func13, Try.ntmps13
    go_wp2
    go_ret2
    exact ⟨rfl, rfl⟩
set_option maxRecDepth 100000 in
set_option maxHeartbeats 2000000 in
theorem m6_new (S : Nat → Prop) (b : Nat) (w : World) (h0 : 1 ≤ b) (h1 : b ≤ 8) (hS : ∀ q, w.heap.size ≤ q → S q) : Calls Try.prog 13 #[.int .i64 (b : Int)] w fun e w' => e = .returned (.tuple #[.pointer (some ⟨w.heap.size, 0, none⟩), .int .i64 0]) ∧ MM S w.heap.size 8 0 (fun _ => none) w' ∧ Below w.heap.size w w' := by
  have d1 : decide ((b : Int) < 1) = false := decide_eq_false (by omega)
  have d2 : decide (8 < (b : Int)) = false := decide_eq_false (by omega)
  have d2n : decide (8 < b) = false := decide_eq_false (by omega)
  go_enter Try.func13, Try.ntmps13
  go_wp2
  go_ret2
  have hb := (Below.refl w.heap.size w).alloc (Nat.le_refl _) (.cells #[.slice none 0 0, .int .i64 256] 39)
  refine ⟨rfl, ⟨Nat.le_refl 8, by decide, KeyOk.none, [], ⟨.slice none 0 0, blk_new w _, Kd.R_nil _ _ _ _ _, hS _ (Nat.le_refl _), fun q hq => hS q (Nat.le_trans hb.size hq)⟩, MS.nil⟩, hb⟩
end Go.Proofs.Ytmnikjhnomphmaa.La


namespace Go.Proofs.Ytmnikjhnomphmaa.La
open Go.RowKit Go.Proofs.Ytmnikjhnomphmaa.Zip Go.Proofs.YtmnikjhnomphmaaW.PrintWords Go.Proofs.YtmnikjhnomphmaaW.PrintLast Go.Proofs.YtmnikjhnomphmaaW.PrintMore Go.Proofs.Ytmnikjhnomphmaa.Q
set_option linter.unusedSimpArgs false
set_option linter.unusedVariables false
abbrev Thing := (Nat → Prop) → World → Prop
/-- A thing that owns its blocks: whatever else is written, it stays; and it may own just what it has, and what is new. -/
def Keeps (X : Thing) : Prop := ∀ (S : Nat → Prop) (W : World), X S W → ∀ (W' : World) (S2 S' : Nat → Prop), Fr S2 W W' → (∀ q, S q → q < W.heap.size → ¬ S2 q) → (∀ q, S q → q < W.heap.size → S' q) → (∀ q, W'.heap.size ≤ q → S' q) → X S' W'
theorem keeps_gg (gg : Nat) (sd : Int) (b : Nat) (us u2 : Int) (f : KF) : Keeps (fun S W => GG S gg sd b us u2 f W) := fun S W h W' S2 S' F d1 d2 d3 => h.keep F d1 d2 d3
theorem keeps_mm (gm b : Nat) (us : Int) (f : KF) : Keeps (fun S W => MM S gm b us f W) := fun S W h W' S2 S' F d1 d2 d3 => h.keep F d1 d2 d3
theorem keeps_ex {α : Sort _} {X : α → Thing} (h : ∀ a, Keeps (X a)) : Keeps (fun S W => ∃ a, X a S W) := by
  rintro S W ⟨a, ha⟩ W' S2 S' F d1 d2 d3
  exact ⟨a, h a S W ha W' S2 S' F d1 d2 d3⟩
theorem keeps_and {X : Thing} {p : Prop} (h : Keeps X) : Keeps (fun S W => X S W ∧ p) := by
  rintro S W ⟨ha, hp⟩ W' S2 S' F d1 d2 d3
  exact ⟨h S W ha W' S2 S' F d1 d2 d3, hp⟩
/-- Both, apart, from n0 on; and blocks of another's (Z) are none of theirs. -/
structure Two (n0 : Nat) (Z : Nat → Prop) (X Y : Thing) (W : World) : Prop where
  n : n0 ≤ W.heap.size
  ex : ∃ A B : Nat → Prop, (∀ q, A q → B q → W.heap.size ≤ q) ∧ (∀ q, A q → n0 ≤ q) ∧ (∀ q, B q → n0 ≤ q) ∧ (∀ q, Z q → q < W.heap.size ∧ ¬ A q ∧ ¬ B q) ∧ X A W ∧ Y B W
theorem Two.swap {n0 : Nat} {Z : Nat → Prop} {X Y : Thing} {W : World} (h : Two n0 Z X Y W) : Two n0 Z Y X W := by
  obtain ⟨n, A, B, h1, h2, h3, h4, h5, h6⟩ := h
  exact ⟨n, B, A, fun q a b => h1 q b a, h3, h2, fun q z => ⟨(h4 q z).1, (h4 q z).2.2, (h4 q z).2.1⟩, h6, h5⟩
/-- By a call that owns the first. -/
theorem Two.left {n0 : Nat} {Z : Nat → Prop} {X X' Y : Thing} {W : World} {f : FuncId} {args : Array Value} {R : Ending → Prop} (h : Two n0 Z X Y W) (hX : Keeps X') (hY : Keeps Y) (hc : ∀ A, X A W → Calls Try.prog f args W fun e w' => R e ∧ X' A w' ∧ Fr A W w') :
    Calls Try.prog f args W fun e w' => R e ∧ Two n0 Z X' Y w' ∧ Below n0 W w' ∧ Fr (fun q => ¬ Z q) W w' := by
  obtain ⟨n, A, B, h1, h2, h3, h4, h5, h6⟩ := h
  refine (hc A h5).mono ?_
  rintro e w' ⟨hR, hx, F⟩
  have hz : W.heap.size ≤ w'.heap.size := F.size
  refine ⟨hR, ⟨by omega, fun q => A q ∧ q < w'.heap.size ∨ w'.heap.size ≤ q, fun q => B q ∧ q < W.heap.size ∨ w'.heap.size ≤ q, ?_, ?_, ?_, ?_, ?_, ?_⟩, F.below h2 n, F.mono (fun q hq hz => (h4 q hz).2.1 hq)⟩
  · rintro q (⟨a1, a2⟩ | a1) (⟨b1, b2⟩ | b1)
    · have := h1 q a1 b1; omega
    · exact b1
    · exact a1
    · exact a1
  · rintro q (⟨a1, a2⟩ | a1)
    · exact h2 q a1
    · omega
  · rintro q (⟨a1, a2⟩ | a1)
    · exact h3 q a1
    · omega
  · intro q z
    obtain ⟨z1, z2, z3⟩ := h4 q z
    refine ⟨by omega, ?_, ?_⟩
    · rintro (⟨a1, a2⟩ | a1)
      · exact z2 a1
      · omega
    · rintro (⟨a1, a2⟩ | a1)
      · exact z3 a1
      · omega
  · exact hX A w' hx w' (fun _ => False) _ (Fr.refl _ _) (fun _ _ _ h => h) (fun q a b => Or.inl ⟨a, b⟩) (fun q a => Or.inr a)
  · exact hY B W h6 w' A _ F (fun q b l a => by have := h1 q a b; omega) (fun q a b => Or.inl ⟨a, b⟩) (fun q a => Or.inr a)
theorem Two.right {n0 : Nat} {Z : Nat → Prop} {X Y Y' : Thing} {W : World} {f : FuncId} {args : Array Value} {R : Ending → Prop} (h : Two n0 Z X Y W) (hX : Keeps X) (hY : Keeps Y') (hc : ∀ A, Y A W → Calls Try.prog f args W fun e w' => R e ∧ Y' A w' ∧ Fr A W w') :
    Calls Try.prog f args W fun e w' => R e ∧ Two n0 Z X Y' w' ∧ Below n0 W w' ∧ Fr (fun q => ¬ Z q) W w' :=
  (h.swap.left hY hX hc).mono (by rintro e w' ⟨a, b, c⟩; exact ⟨a, b.swap, c⟩)
/-- Of other blocks, another set: what stands behind both. -/
theorem Two.other {n0 : Nat} {Z Z' : Nat → Prop} {X Y : Thing} {W W' : World} (h : Two n0 Z X Y W) (hX : Keeps X) (hY : Keeps Y) (hb : Below W.heap.size W W') (hz : ∀ q, Z' q → Z q ∨ (W.heap.size ≤ q ∧ q < W'.heap.size)) : Two n0 Z' X Y W' := by
  obtain ⟨n, A, B, h1, h2, h3, h4, h5, h6⟩ := h
  have hs : W.heap.size ≤ W'.heap.size := hb.size
  refine ⟨by omega, fun q => A q ∧ q < W.heap.size ∨ W'.heap.size ≤ q, fun q => B q ∧ q < W.heap.size ∨ W'.heap.size ≤ q, ?_, ?_, ?_, ?_, ?_, ?_⟩
  · rintro q (⟨a1, a2⟩ | a1) (⟨b1, b2⟩ | b1)
    · have := h1 q a1 b1; omega
    · exact b1
    · exact a1
    · exact a1
  · rintro q (⟨a1, a2⟩ | a1)
    · exact h2 q a1
    · omega
  · rintro q (⟨a1, a2⟩ | a1)
    · exact h3 q a1
    · omega
  · intro q z
    rcases hz q z with z | z
    · obtain ⟨z1, z2, z3⟩ := h4 q z
      refine ⟨by omega, ?_, ?_⟩
      · rintro (⟨a1, a2⟩ | a1)
        · exact z2 a1
        · omega
      · rintro (⟨a1, a2⟩ | a1)
        · exact z3 a1
        · omega
    · refine ⟨by omega, ?_, ?_⟩ <;> (rintro (⟨a1, a2⟩ | a1) <;> omega)
  · exact hX A W h5 W' (fun _ => False) _ (Fr.of_below hb _) (fun _ _ _ h => h) (fun q a b => Or.inl ⟨a, b⟩) (fun q a => Or.inr a)
  · exact hY B W h6 W' (fun _ => False) _ (Fr.of_below hb _) (fun _ _ _ h => h) (fun q a b => Or.inl ⟨a, b⟩) (fun q a => Or.inr a)
theorem Two.below {n0 : Nat} {Z : Nat → Prop} {X Y : Thing} {W W' : World} (h : Two n0 Z X Y W) (hX : Keeps X) (hY : Keeps Y) (hb : Below W.heap.size W W') : Two n0 Z X Y W' := h.other hX hY hb (fun q hq => Or.inl hq)
theorem Two.drew {n0 : Nat} {Z : Nat → Prop} {X Y : Thing} {W : World} (h : Two n0 Z X Y W) (hX : Keeps X) (hY : Keeps Y) : Two n0 Z X Y W.drew := h.below hX hY (below_drew (Below.refl _ _))
/-- Both made, one behind the other. -/
theorem Two.mk2 {X Y : Thing} {n0 : Nat} {W W' : World} (hX : Keeps X) (h : X (fun q => n0 ≤ q) W) (hn : n0 ≤ W.heap.size) (hb : Below W.heap.size W W') (k : Y (fun q => W.heap.size ≤ q) W') : Two n0 (fun _ => False) X Y W' := by
  have hs : W.heap.size ≤ W'.heap.size := hb.size
  refine ⟨by omega, fun q => n0 ≤ q ∧ q < W.heap.size ∨ W'.heap.size ≤ q, fun q => W.heap.size ≤ q, ?_, ?_, fun q h => by omega, fun q z => z.elim, ?_, k⟩
  · rintro q (⟨a1, a2⟩ | a1) b
    · omega
    · exact a1
  · rintro q (⟨a1, a2⟩ | a1) <;> omega
  · exact hX _ W h W' (fun _ => False) _ (Fr.of_below hb _) (fun _ _ _ h => h) (fun q a b => Or.inl ⟨a, b⟩) (fun q a => Or.inr a)
end Go.Proofs.Ytmnikjhnomphmaa.La


namespace Go.Proofs.Ytmnikjhnomphmaa.La
open Go.RowKit Go.Proofs.Ytmnikjhnomphmaa.Zip Go.Proofs.YtmnikjhnomphmaaW.PrintWords Go.Proofs.YtmnikjhnomphmaaW.PrintLast Go.Proofs.YtmnikjhnomphmaaW.PrintMore Go.Proofs.Ytmnikjhnomphmaa.Q
set_option linter.unusedSimpArgs false
set_option linter.unusedVariables false
/-- An Op in its own block. -/
def OX (q : Nat) (d : Int) (k : ByteArray) (v : Int) (W : World) : Prop := W.heap[q]? = some (.cells #[.int .i64 d, .string k, .int .i64 v] 35 (0, 0))
theorem OX.cells {q : Nat} {d : Int} {k : ByteArray} {v : Int} {W : World} (h : OX q d k v W) : W.cell? ⟨q, 0, none⟩ = some (.int .i64 d) ∧ W.cell? ⟨q, 1, none⟩ = some (.string k) ∧ W.cell? ⟨q, 2, none⟩ = some (.int .i64 v) :=
  ⟨(blk_cell h 0).trans rfl, (blk_cell h 1).trans rfl, (blk_cell h 2).trans rfl⟩
abbrev gT (gg : Nat) (sd : Int) (b : Nat) (us u2 : Int) (f : KF) : Thing := fun S W => GG S gg sd b us u2 f W
abbrev mT (gm : Nat) (us : Int) (f : KF) : Thing := fun S W => MM S gm 8 us f W
theorem kgT {gg : Nat} {sd : Int} {b : Nat} {us u2 : Int} {f : KF} : Keeps (gT gg sd b us u2 f) := keeps_gg gg sd b us u2 f
theorem kmT {gm : Nat} {us : Int} {f : KF} : Keeps (mT gm us f) := keeps_mm gm 8 us f
/-- A Grow and the document's map: they say the same. -/
abbrev St (n0 : Nat) (Z : Nat → Prop) (gg gm : Nat) (sd : Int) (b : Nat) (us u2 : Int) (f : KF) (W : World) : Prop := Two n0 Z (gT gg sd b us u2 f) (mT gm us f) W
/-- Between two calls of does: both, and its Op. -/
structure Md (n0 q : Nat) (X Y : Thing) (d : Int) (k : ByteArray) (v : Int) (w w1 : World) : Prop where
  t : Two n0 (fun p => p = q) X Y w1
  x : OX q d k v w1
  b : Below n0 w w1
section
variable {n0 q : Nat} {X X' Y Y' : Thing} {d v : Int} {k : ByteArray} {w w1 : World} {f : FuncId} {args : Array Value} {R : Ending → Prop}
theorem Md.left (M : Md n0 q X Y d k v w w1) (hX : Keeps X') (hY : Keeps Y) (hc : ∀ A, X A w1 → Calls Try.prog f args w1 fun e w' => R e ∧ X' A w' ∧ Fr A w1 w') : Calls Try.prog f args w1 fun e w' => R e ∧ Md n0 q X' Y d k v w w' :=
  (M.t.left hX hY hc).mono (by rintro e w' ⟨r, t, b, F⟩; exact ⟨r, t, F.blk M.x (fun h => h rfl), M.b.trans b⟩)
theorem Md.right (M : Md n0 q X Y d k v w w1) (hX : Keeps X) (hY : Keeps Y') (hc : ∀ A, Y A w1 → Calls Try.prog f args w1 fun e w' => R e ∧ Y' A w' ∧ Fr A w1 w') : Calls Try.prog f args w1 fun e w' => R e ∧ Md n0 q X Y' d k v w w' :=
  (M.t.right hX hY hc).mono (by rintro e w' ⟨r, t, b, F⟩; exact ⟨r, t, F.blk M.x (fun h => h rfl), M.b.trans b⟩)
theorem Md.below {w2 : World} (M : Md n0 q X Y d k v w w1) (hX : Keeps X) (hY : Keeps Y) (hb : Below w1.heap.size w1 w2) : Md n0 q X Y d k v w w2 :=
  ⟨M.t.below hX hY hb, blk_below M.x hb, M.b.trans (hb.mono M.t.n)⟩
theorem Md.drew (M : Md n0 q X Y d k v w w1) (hX : Keeps X) (hY : Keeps Y) : Md n0 q X Y d k v w w1.drew := M.below hX hY (below_drew (Below.refl _ _))
/-- Where does begins: its Op has a block. -/
theorem Md.begin (h : Two n0 (fun _ => False) X Y w) (hX : Keeps X) (hY : Keeps Y) (d v : Int) (k : ByteArray) : Md n0 w.heap.size X Y d k v w (w.alloc (.cells #[.int .i64 d, .string k, .int .i64 v] 35)) := by
  have hb := (Below.refl w.heap.size w).alloc (Nat.le_refl _) (.cells #[.int .i64 d, .string k, .int .i64 v] 35)
  exact ⟨h.other hX hY hb (fun p hp => Or.inr (by rw [hp]; simp)), blk_new w _, hb.mono h.n⟩
theorem Two.none {Z : Nat → Prop} (h : Two n0 Z X Y w) : Two n0 (fun _ => False) X Y w := by
  obtain ⟨n, A, B, h1, h2, h3, h4, h5, h6⟩ := h
  exact ⟨n, A, B, h1, h2, h3, fun q z => z.elim, h5, h6⟩
end
/-- What does leaves. -/
def Fin (n0 gg gm : Nat) (sd : Int) (b : Nat) (us u2 : Int) (dob : Int) (w w' : World) : Prop :=
  ∃ b' us' u2' f', St n0 (fun _ => False) gg gm sd b' us' u2' f' w' ∧ Below n0 w w' ∧ (dob ≠ 0 → b' = b ∧ u2' ≤ u2) ∧ (dob = 1 → u2' = u2) ∧ (dob = 2 → u2 - 1 ≤ u2')
section
variable {n0 gg gm : Nat} {sd : Int} {b : Nat} {us u2 : Int} {f : KF} {w : World}
theorem St.rng {Z : Nat → Prop} (h : St n0 Z gg gm sd b us u2 f w) : 1 ≤ b ∧ b ≤ 8 ∧ 0 ≤ u2 ∧ u2 ≤ us ∧ us ≤ 2 ^ b := by
  obtain ⟨n, A, B, h1, h2, h3, h4, h5, h6⟩ := h
  exact GG.rng h5
theorem St.cell {Z : Nat → Prop} (h : St n0 Z gg gm sd b us u2 f w) : ∃ A c, w.cell? ⟨gm, 0, none⟩ = some (.slice A us.toNat c) := by
  obtain ⟨n, A, B, h1, h2, h3, h4, h5, h6⟩ := h
  exact MM.cell h6
abbrev pT (gg : Nat) (sd : Int) (b : Nat) (us u2 : Int) (f : KF) (key : ByteArray) (us' : Int) (f' : KF) (e0 : Int) : Thing := fun S W => ∃ b' u2', GG S gg sd b' us' u2' f' W ∧ PutOut b b' us u2 u2' (getF f key).2 e0
theorem kpT {key : ByteArray} {us' e0 : Int} {f' : KF} : Keeps (pT gg sd b us u2 f key us' f' e0) := keeps_ex fun b' => keeps_ex fun u2' => keeps_and (keeps_gg gg sd b' us' u2' f')
abbrev dT (gg : Nat) (sd : Int) (b : Nat) (u2 : Int) (us' : Int) (f' : KF) : Thing := fun S W => ∃ u2', GG S gg sd b us' u2' f' W ∧ u2' ≤ u2 ∧ u2 - 1 ≤ u2'
theorem kdT {us' : Int} {f' : KF} : Keeps (dT gg sd b u2 us' f') := keeps_ex fun u2' => keeps_and (keeps_gg gg sd b us' u2' f')
end
end Go.Proofs.Ytmnikjhnomphmaa.La


namespace Go.Proofs.Ytmnikjhnomphmaa.La
open Go.RowKit Go.Proofs.Ytmnikjhnomphmaa.Zip Go.Proofs.YtmnikjhnomphmaaW.PrintWords Go.Proofs.YtmnikjhnomphmaaW.PrintLast Go.Proofs.YtmnikjhnomphmaaW.PrintMore Go.Proofs.Ytmnikjhnomphmaa.Q
set_option linter.unusedSimpArgs false
set_option linter.unusedVariables false
section
variable {n0 gg gm : Nat} {sd : Int} {b : Nat} {us u2 : Int} {f : KF} {w : World}
set_option maxRecDepth 100000 in
set_option maxHeartbeats 4000000 in
theorem does_put (h : St n0 (fun _ => False) gg gm sd b us u2 f w) (val : Int) (key : ByteArray) :
    Calls Try.prog 14 #[.pointer (some ⟨gg, 0, none⟩), .pointer (some ⟨gm, 0, none⟩), .agg #[.int .i64 0, .string key, .int .i64 val]] w fun e w' => e = .returned (.bool true) ∧ Fin n0 gg gm sd b us u2 0 w w' := by
  have M0 := Aside0.mk (Md.begin h kgT kmT 0 val key)
  clear h
  go_enter Try.func14, Try.ntmps14
  go_upto_region 1 with (fail)
  obtain ⟨W0, hW0⟩ : ∃ W0, w.alloc (.cells #[.int .i64 0, .string key, .int .i64 val] 35) = W0 := ⟨_, rfl⟩
  rw [hW0] at M0 ⊢
  obtain ⟨q, hq⟩ : ∃ q, w.heap.size = q := ⟨_, rfl⟩
  rw [hq] at M0 ⊢
  clear hq hW0
  obtain ⟨x0, x1, x2⟩ := M0.out.x.cells
  have x0d : W0.drew.cell? ⟨q, 0, none⟩ = some (.int .i64 0) := x0
  have x1d : W0.drew.cell? ⟨q, 1, none⟩ = some (.string key) := x1
  have x2d : W0.drew.cell? ⟨q, 2, none⟩ = some (.int .i64 val) := x2
  obtain ⟨e0, us', f', hp⟩ : ∃ e0 us' f', putF 8 f us key val = (e0, us', f') := ⟨_, _, _, rfl⟩
  have se : (e0 == e0) = true := by simp
  have C1 := Aside0.mk ((M0.out.drew kgT kmT).left (X' := pT gg sd b us u2 f key us' f' e0) (R := fun e => e = .returned (.int .i64 e0)) kpT kmT (fun A hA => gg_put hA key val hp))
  have C2 := Aside0.mk (fun w3 (h3 : Md n0 q (pT gg sd b us u2 f key us' f' e0) (mT gm us f) 0 key val w w3) => h3.right (Y' := mT gm us' f') (R := fun e => e = .returned (.int .i64 e0)) kpT kmT (fun A hA => mm_put hA key val hp))
  clear hp M0
  go_upto_region 3 with (fail)
  go_region_held3 (fun w' => w'.cell? ⟨q, 1, none⟩ = some (.string key) ∧ w'.cell? ⟨q, 2, none⟩ = some (.int .i64 val)) ((first | assumption | exact ⟨x1d, x2d⟩ | exact (OX.cells H3.out.x).2 | exact (OX.cells H4.out.x).2)) ((first | (go_at_call 22; refine (C2.out w3 H3.out).mono ?_; rintro e w4 ⟨rfl, h4⟩; have H4 := Aside0.mk h4; clear h4) | (go_at_call 23; refine C1.out.mono ?_; rintro e w3 ⟨rfl, h3⟩; have H3 := Aside0.mk h3; clear h3)))
  all_goals
    go_wp2
    go_ret
    obtain ⟨n, A, B, k1, k2, k3, k4, ⟨b', u2', k5, k6⟩, k7⟩ := H4.out.t.none
    exact ⟨rfl, b', us', u2', f', ⟨n, A, B, k1, k2, k3, k4, k5, k7⟩, H4.out.b, fun h => absurd rfl h, fun h => (by cases h), fun h => (by cases h)⟩
end
end Go.Proofs.Ytmnikjhnomphmaa.La


namespace Go.Proofs.Ytmnikjhnomphmaa.La
open Go.RowKit Go.Proofs.Ytmnikjhnomphmaa.Zip Go.Proofs.YtmnikjhnomphmaaW.PrintWords Go.Proofs.YtmnikjhnomphmaaW.PrintLast Go.Proofs.YtmnikjhnomphmaaW.PrintMore Go.Proofs.Ytmnikjhnomphmaa.Q
set_option linter.unusedSimpArgs false
set_option linter.unusedVariables false
section
variable {n0 gg gm : Nat} {sd : Int} {b : Nat} {us u2 : Int} {f : KF} {w : World}
set_option maxRecDepth 100000 in
set_option maxHeartbeats 4000000 in
theorem does_del (h : St n0 (fun _ => False) gg gm sd b us u2 f w) (val : Int) (key : ByteArray) (hk : key.size ≤ 4611686018427387904) :
    Calls Try.prog 14 #[.pointer (some ⟨gg, 0, none⟩), .pointer (some ⟨gm, 0, none⟩), .agg #[.int .i64 2, .string key, .int .i64 val]] w fun e w' => e = .returned (.bool true) ∧ Fin n0 gg gm sd b us u2 2 w w' := by
  have M0 := Aside0.mk (Md.begin h kgT kmT 2 val key)
  clear h
  go_enter Try.func14, Try.ntmps14
  go_upto_region 1 with (fail)
  obtain ⟨W0, hW0⟩ : ∃ W0, w.alloc (.cells #[.int .i64 2, .string key, .int .i64 val] 35) = W0 := ⟨_, rfl⟩
  rw [hW0] at M0 ⊢
  obtain ⟨q, hq⟩ : ∃ q, w.heap.size = q := ⟨_, rfl⟩
  rw [hq] at M0 ⊢
  clear hq hW0
  obtain ⟨x0, x1, x2⟩ := M0.out.x.cells
  have x0d : W0.drew.cell? ⟨q, 0, none⟩ = some (.int .i64 2) := x0
  have x1d : W0.drew.cell? ⟨q, 1, none⟩ = some (.string key) := x1
  have x2d : W0.drew.cell? ⟨q, 2, none⟩ = some (.int .i64 val) := x2
  obtain ⟨e0, us', f', hp⟩ : ∃ e0 us' f', delF f us key = (e0, us', f') := ⟨_, _, _, rfl⟩
  have se : (e0 == e0) = true := by simp
  have C1 := Aside0.mk ((M0.out.drew kgT kmT).left (X' := dT gg sd b u2 us' f') (R := fun e => e = .returned (.bool e0)) kdT kmT (fun A hA => gg_del hA key hk hp))
  have C2 := Aside0.mk (fun w3 (h3 : Md n0 q (dT gg sd b u2 us' f') (mT gm us f) 2 key val w w3) => h3.right (Y' := mT gm us' f') (R := fun e => e = .returned (.bool e0)) kdT kmT (fun A hA => mm_del hA key hp))
  clear hp hk M0
  go_upto_region 9 with (fail)
  go_region_with (first | (go_at_call 30; refine (C2.out w3 H3.out).mono ?_; rintro e w4 ⟨rfl, h4⟩; have H4 := Aside0.mk h4; clear h4) | (go_at_call 25; refine C1.out.mono ?_; rintro e w3 ⟨rfl, h3⟩; have H3 := Aside0.mk h3; clear h3 x0 x1 x2 x0d x1d x2d; obtain ⟨x0, x1, x2⟩ := OX.cells H3.out.x))
  all_goals
    go_wp2
    go_ret
    obtain ⟨n, A, B, k1, k2, k3, k4, ⟨u2', k5, k6, k8⟩, k7⟩ := H4.out.t.none
    exact ⟨rfl, b, us', u2', f', ⟨n, A, B, k1, k2, k3, k4, k5, k7⟩, H4.out.b, fun h => ⟨rfl, k6⟩, fun h => (by cases h), fun h => k8⟩
end
end Go.Proofs.Ytmnikjhnomphmaa.La


namespace Go.Proofs.Ytmnikjhnomphmaa.La
open Go.RowKit Go.Proofs.Ytmnikjhnomphmaa.Zip Go.Proofs.YtmnikjhnomphmaaW.PrintWords Go.Proofs.YtmnikjhnomphmaaW.PrintLast Go.Proofs.YtmnikjhnomphmaaW.PrintMore Go.Proofs.Ytmnikjhnomphmaa.Q
set_option linter.unusedSimpArgs false
set_option linter.unusedVariables false
section
variable {n0 gg gm : Nat} {sd : Int} {b : Nat} {us u2 : Int} {f : KF} {w : World}
set_option maxRecDepth 100000 in
set_option maxHeartbeats 4000000 in
theorem does_get (h : St n0 (fun _ => False) gg gm sd b us u2 f w) (val : Int) (key : ByteArray) (hk : key.size ≤ 4611686018427387904) :
    Calls Try.prog 14 #[.pointer (some ⟨gg, 0, none⟩), .pointer (some ⟨gm, 0, none⟩), .agg #[.int .i64 1, .string key, .int .i64 val]] w fun e w' => e = .returned (.bool true) ∧ Fin n0 gg gm sd b us u2 1 w w' := by
  have M0 := Aside0.mk (Md.begin h kgT kmT 1 val key)
  clear h
  go_enter Try.func14, Try.ntmps14
  go_upto_region 1 with (fail)
  obtain ⟨W0, hW0⟩ : ∃ W0, w.alloc (.cells #[.int .i64 1, .string key, .int .i64 val] 35) = W0 := ⟨_, rfl⟩
  rw [hW0] at M0 ⊢
  obtain ⟨q, hq⟩ : ∃ q, w.heap.size = q := ⟨_, rfl⟩
  rw [hq] at M0 ⊢
  clear hq hW0
  obtain ⟨x0, x1, x2⟩ := M0.out.x.cells
  have x0d : W0.drew.cell? ⟨q, 0, none⟩ = some (.int .i64 1) := x0
  have x1d : W0.drew.cell? ⟨q, 1, none⟩ = some (.string key) := x1
  obtain ⟨v, is, hp⟩ : ∃ v is, getF f key = (v, is) := ⟨_, _, rfl⟩
  have se : (v == v) = true := by simp
  have se2 : (is == is) = true := by simp
  have C1 := Aside0.mk (M0.out.left (X' := gT gg sd b us u2 f) (R := fun e => e = .returned (.tuple #[.int .i64 v, .bool is])) kgT kmT (fun A hA => (gg_get hA key hk hp).mono (by rintro e w' ⟨r, k1, k2⟩; exact ⟨r, k1, Fr.of_below k2 A⟩)))
  have C2 := Aside0.mk (fun w3 (h3 : Md n0 q (gT gg sd b us u2 f) (mT gm us f) 1 key val w w3) => h3.right (Y' := mT gm us f) (R := fun e => e = .returned (.tuple #[.int .i64 v, .bool is])) kgT kmT (fun A hA => (mm_get hA key hp).mono (by rintro e w' ⟨r, k1, k2⟩; exact ⟨r, k1, Fr.of_below k2 A⟩)))
  clear hp hk M0
  go_upto_region 6 with (go_at_call 26; refine C1.out.mono ?_; rintro e w3 ⟨rfl, h3⟩; have H3 := Aside0.mk h3; clear h3 x0 x1 x2 x0d x1d)
  obtain ⟨x0, x1, x2⟩ := OX.cells H3.out.x
  go_wp2_with (go_at_call 21; refine (C2.out w3 H3.out).mono ?_; rintro e w4 ⟨rfl, h4⟩; have H4 := Aside0.mk h4; clear h4)
  all_goals
    go_ret
    exact ⟨rfl, b, us, u2, f, H4.out.t.none, H4.out.b, fun h => ⟨rfl, Int.le_refl _⟩, fun h => rfl, fun h => (by cases h)⟩
set_option maxRecDepth 100000 in
set_option maxHeartbeats 4000000 in
theorem does_other (h : St n0 (fun _ => False) gg gm sd b us u2 f w) (dob val : Int) (key : ByteArray) (HD : (dob == 0) = false ∧ (dob == 1) = false ∧ (dob == 2) = false ∧ (dob == 3) = false) (HE : dob ≠ 1 ∧ dob ≠ 2) :
    Calls Try.prog 14 #[.pointer (some ⟨gg, 0, none⟩), .pointer (some ⟨gm, 0, none⟩), .agg #[.int .i64 dob, .string key, .int .i64 val]] w fun e w' => e = .returned (.bool true) ∧ Fin n0 gg gm sd b us u2 dob w w' := by
  have M0 := Aside0.mk (Md.begin h kgT kmT dob val key)
  have HE := Aside0.mk HE
  clear h
  go_enter Try.func14, Try.ntmps14
  go_upto_region 1 with (fail)
  obtain ⟨W0, hW0⟩ : ∃ W0, w.alloc (.cells #[.int .i64 dob, .string key, .int .i64 val] 35) = W0 := ⟨_, rfl⟩
  rw [hW0] at M0 ⊢
  obtain ⟨q, hq⟩ : ∃ q, w.heap.size = q := ⟨_, rfl⟩
  rw [hq] at M0 ⊢
  clear hq hW0
  obtain ⟨x0, x1, x2⟩ := M0.out.x.cells
  have x0d : W0.drew.cell? ⟨q, 0, none⟩ = some (.int .i64 dob) := x0
  obtain ⟨b0, b1, b2, b3⟩ := HD
  go_wp2
  all_goals
    go_ret
    exact ⟨rfl, b, us, u2, f, M0.out.t.none, M0.out.b, fun h => ⟨rfl, Int.le_refl _⟩, fun h => rfl, fun h => absurd h HE.out.2⟩
end
end Go.Proofs.Ytmnikjhnomphmaa.La


namespace Go.Proofs.Ytmnikjhnomphmaa.La
open Go.RowKit Go.Proofs.Ytmnikjhnomphmaa.Zip Go.Proofs.YtmnikjhnomphmaaW.PrintWords Go.Proofs.YtmnikjhnomphmaaW.PrintLast Go.Proofs.YtmnikjhnomphmaaW.PrintMore Go.Proofs.Ytmnikjhnomphmaa.Q
set_option linter.unusedSimpArgs false
set_option linter.unusedVariables false
section
variable {n0 gg gm : Nat} {sd : Int} {b : Nat} {us u2 : Int} {f : KF} {w : World}
set_option maxRecDepth 100000 in
set_option maxHeartbeats 4000000 in
theorem does_move (h : St n0 (fun _ => False) gg gm sd b us u2 f w) (val : Int) (key : ByteArray) :
    Calls Try.prog 14 #[.pointer (some ⟨gg, 0, none⟩), .pointer (some ⟨gm, 0, none⟩), .agg #[.int .i64 3, .string key, .int .i64 val]] w fun e w' => e = .returned (.bool true) ∧ Fin n0 gg gm sd b us u2 3 w w' := by
  have M0 := Aside0.mk (Md.begin h kgT kmT 3 val key)
  have HR := Aside0.mk h.rng
  clear h
  go_enter Try.func14, Try.ntmps14
  go_upto_region 1 with (fail)
  obtain ⟨W0, hW0⟩ : ∃ W0, w.alloc (.cells #[.int .i64 3, .string key, .int .i64 val] 35) = W0 := ⟨_, rfl⟩
  rw [hW0] at M0 ⊢
  obtain ⟨q, hq⟩ : ∃ q, w.heap.size = q := ⟨_, rfl⟩
  rw [hq] at M0 ⊢
  clear hq hW0
  obtain ⟨x0, x1, x2⟩ := M0.out.x.cells
  have x0d : W0.drew.cell? ⟨q, 0, none⟩ = some (.int .i64 3) := x0
  have x2d : W0.drew.cell? ⟨q, 2, none⟩ = some (.int .i64 val) := x2
  have CL := Aside0.mk (fun w3 (uu : Int) (h3 : Md n0 q (gT gg sd b us uu f) (mT gm us f) 3 key val w w3) => by
    obtain ⟨n, A, B, k1, k2, k3, k4, k5, k6⟩ := h3.t
    exact gg_left k5)
  have C1 := Aside0.mk ((M0.out.drew kgT kmT).left (X' := gT gg sd b us (u2 - min (max val 0) u2) f) (R := fun e => e = .returned (.int .i64 (min (max val 0) u2))) kgT kmT (fun A hA => gg_move hA val))
  go_upto_region 12 with (go_at_call 19; refine (CL.out _ _ M0.out).mono ?_; rintro e w3 ⟨rfl, hw⟩; have hw2 := hw.symm; subst hw2)
  have HM := Aside0.mk (show 0 ≤ min (max val 0) u2 ∧ min (max val 0) u2 ≤ u2 by have := HR.out; omega)
  obtain ⟨m, hm⟩ : ∃ m, min (max val 0) u2 = m := ⟨_, rfl⟩
  have se1 : (m == m) = true := by simp
  have se2 : (u2 - m == u2 - m) = true := by simp
  have DW : IntKind.i64.wrap (u2 - m) = u2 - m := by
    have h1 := HM.out
    have h2 := HR.out
    have h3 := pow_le8 h2.2.1
    rw [hm] at h1
    rw [IntKind.wrap_i64]
    omega
  rw [hm] at C1 HM
  clear M0
  go_region_held3 (fun w' => w'.cell? ⟨q, 2, none⟩ = some (.int .i64 val)) ((first | assumption | exact x2d | exact (OX.cells H3.out.x).2.2)) ((first | (go_at_call 19; refine (CL.out _ _ H3.out).mono ?_; rintro e w4 ⟨rfl, hw⟩; have hw2 := hw.symm; subst hw2) | (go_at_call 27; refine C1.out.mono ?_; rintro e w3 ⟨rfl, h3⟩; have H3 := Aside0.mk h3; clear h3)))
  all_goals
    go_wp2
    go_ret
    exact ⟨rfl, b, us, u2 - m, f, H3.out.t.none, H3.out.b, fun h => ⟨rfl, by have := HM.out; omega⟩, fun h => (by cases h), fun h => (by cases h)⟩
end
end Go.Proofs.Ytmnikjhnomphmaa.La


namespace Go.Proofs.Ytmnikjhnomphmaa.La
open Go.RowKit Go.Proofs.Ytmnikjhnomphmaa.Zip Go.Proofs.YtmnikjhnomphmaaW.PrintWords Go.Proofs.YtmnikjhnomphmaaW.PrintLast Go.Proofs.YtmnikjhnomphmaaW.PrintMore Go.Proofs.Ytmnikjhnomphmaa.Q
set_option linter.unusedSimpArgs false
set_option linter.unusedVariables false
theorem does_calls {n0 gg gm : Nat} {sd : Int} {b : Nat} {us u2 : Int} {f : KF} {w : World} (h : St n0 (fun _ => False) gg gm sd b us u2 f w) (dob val : Int) (key : ByteArray) (hk : key.size ≤ 4611686018427387904) :
    Calls Try.prog 14 #[.pointer (some ⟨gg, 0, none⟩), .pointer (some ⟨gm, 0, none⟩), .agg #[.int .i64 dob, .string key, .int .i64 val]] w fun e w' => e = .returned (.bool true) ∧ Fin n0 gg gm sd b us u2 dob w w' := by
  by_cases h0 : dob = 0
  · subst h0; exact does_put h val key
  by_cases h1 : dob = 1
  · subst h1; exact does_get h val key hk
  by_cases h2 : dob = 2
  · subst h2; exact does_del h val key hk
  by_cases h3 : dob = 3
  · subst h3; exact does_move h val key
  exact does_other h dob val key ⟨by simpa using h0, by simpa using h1, by simpa using h2, by simpa using h3⟩ ⟨h1, h2⟩
end Go.Proofs.Ytmnikjhnomphmaa.La


namespace Go.Proofs.Ytmnikjhnomphmaa.La
open Go.RowKit Go.Proofs.Ytmnikjhnomphmaa.Zip Go.Proofs.YtmnikjhnomphmaaW.PrintWords Go.Proofs.YtmnikjhnomphmaaW.PrintLast Go.Proofs.YtmnikjhnomphmaaW.PrintMore Go.Proofs.Ytmnikjhnomphmaa.Q
set_option linter.unusedSimpArgs false
set_option linter.unusedVariables false
instance instBegs (b : Nat) (us u2 : Int) : Decidable (Begs b us u2) := by unfold Begs; infer_instance
theorem size_f {b : Nat} (h0 : 1 ≤ b) (h1 : b ≤ 8) : sandglassref06_Size.f 20 (b : Int) = some (2 ^ b) := by
  rcases (show b = 1 ∨ b = 2 ∨ b = 3 ∨ b = 4 ∨ b = 5 ∨ b = 6 ∨ b = 7 ∨ b = 8 by omega) with rfl | rfl | rfl | rfl | rfl | rfl | rfl | rfl <;> kernel_rfl
theorem begins_f {b : Nat} (h0 : 1 ≤ b) (h1 : b ≤ 8) {u2 us : Int} (h2 : 0 ≤ us ∧ us ≤ 256) : sandglassref06_Begins.f 20 u2 (b : Int) us = some (decide (Begs b us u2)) := by
  unfold sandglassref06_Begins.f
  rw [size_f h0 h1]
  have hp := pow_le8 h1
  have hp1 := pow1 h0
  by_cases c1 : u2 = 0
  · rw [if_pos c1]
    by_cases c2 : (b : Int) < 8
    · rw [if_pos c2]
      simp only [Option.bind_some, Option.some.injEq, decide_eq_decide]
      unfold Begs
      have e1 : wrap64 (us + 1) = us + 1 := by unfold wrap64; omega
      have e2 : wrap64 (4 * (us + 1)) = 4 * (us + 1) := by unfold wrap64; omega
      have e3 : wrap64 (3 * 2 ^ b) = 3 * 2 ^ b := by unfold wrap64; omega
      rw [e1, e2, e3]
      constructor
      · intro h; exact ⟨c1, by omega, by omega⟩
      · intro h; exact h.2.2
    · rw [if_neg c2, decide_eq_false (fun h => c2 (by have := h.2.1; omega))]
  · rw [if_neg c1, decide_eq_false (fun h => c1 h.1)]
end Go.Proofs.Ytmnikjhnomphmaa.La


namespace Go.Proofs.Ytmnikjhnomphmaa.Q
open Go.RowKit Go.Proofs.Ytmnikjhnomphmaa.Zip Go.Proofs.YtmnikjhnomphmaaW.PrintWords Go.Proofs.YtmnikjhnomphmaaW.PrintLast Go.Proofs.YtmnikjhnomphmaaW.PrintMore Go.Proofs.Ytmnikjhnomphmaa.La
set_option linter.unusedVariables false
set_option linter.unusedSimpArgs false
/-- A Grow and the document's map. -/
structure T2 (n0 : Nat) (X Y : Thing) (w W : World) : Prop where
  t : Two n0 (fun _ => False) X Y W
  be : Below w.heap.size w W
  hn : w.heap.size ≤ n0
section
variable {n0 : Nat} {X X' Y Y' : Thing} {w W : World} {f : FuncId} {args : Array Value} {R : Ending → Prop}
theorem T2.left (M : T2 n0 X Y w W) (hX : Keeps X') (hY : Keeps Y) (hc : ∀ A, X A W → Calls Try.prog f args W fun e w' => R e ∧ X' A w' ∧ Fr A W w') : Calls Try.prog f args W fun e w' => R e ∧ T2 n0 X' Y w w' :=
  (M.t.left hX hY hc).mono (by rintro e w' ⟨r, t, b, F⟩; exact ⟨r, t, M.be.trans (b.mono M.hn), M.hn⟩)
theorem T2.right (M : T2 n0 X Y w W) (hX : Keeps X) (hY : Keeps Y') (hc : ∀ A, Y A W → Calls Try.prog f args W fun e w' => R e ∧ Y' A w' ∧ Fr A W w') : Calls Try.prog f args W fun e w' => R e ∧ T2 n0 X Y' w w' :=
  (M.t.right hX hY hc).mono (by rintro e w' ⟨r, t, b, F⟩; exact ⟨r, t, M.be.trans (b.mono M.hn), M.hn⟩)
theorem T2.drew (M : T2 n0 X Y w W) (hX : Keeps X) (hY : Keeps Y) : T2 n0 X Y w W.drew := ⟨M.t.drew hX hY, below_drew M.be, M.hn⟩
end
section
variable {n0 gg gm b : Nat} {sd us u2 us' e0 : Int} {f f' : KF} {w W : World} {X Y : Thing}
theorem T2.leftc (h : T2 n0 (gT gg sd b us u2 f) Y w W) : Calls Try.prog 19 #[.pointer (some ⟨gg, 0, none⟩)] W fun e w' => e = .returned (.int .i64 u2) ∧ w' = W := by
  obtain ⟨n, A, B, k1, k2, k3, k4, k5, k6⟩ := h.t
  exact gg_left k5
theorem T2.bitsc (h : T2 n0 (gT gg sd b us u2 f) Y w W) : Calls Try.prog 20 #[.pointer (some ⟨gg, 0, none⟩)] W fun e w' => e = .returned (.int .i64 (b : Int)) ∧ w' = W := by
  obtain ⟨n, A, B, k1, k2, k3, k4, k5, k6⟩ := h.t
  exact gg_bits k5
theorem T2.getc (h : T2 n0 (gT gg sd b us u2 f) (mT gm us f) w W) (key : ByteArray) {n : Int} {is : Bool} (hp : getF f key = (n, is)) : Calls Try.prog 21 #[.pointer (some ⟨gm, 0, none⟩), .string key] W fun e w' => e = .returned (.tuple #[.int .i64 n, .bool is]) ∧ T2 n0 (gT gg sd b us u2 f) (mT gm us f) w w' :=
  h.right (Y' := mT gm us f) (R := fun e => e = .returned (.tuple #[.int .i64 n, .bool is])) kgT kmT (fun A hA => (mm_get hA key hp).mono (by rintro e w' ⟨r, k1, k2⟩; exact ⟨r, k1, Fr.of_below k2 A⟩))
theorem T2.mputc (h : T2 n0 (gT gg sd b us u2 f) (mT gm us f) w W) (key : ByteArray) (v : Int) (hp : putF 8 f us key v = (e0, us', f')) : Calls Try.prog 22 #[.pointer (some ⟨gm, 0, none⟩), .string key, .int .i64 v] W fun e w' => e = .returned (.int .i64 e0) ∧ T2 n0 (gT gg sd b us u2 f) (mT gm us' f') w w' :=
  h.right (Y' := mT gm us' f') (R := fun e => e = .returned (.int .i64 e0)) kgT kmT (fun A hA => mm_put hA key v hp)
theorem T2.gputc (h : T2 n0 (gT gg sd b us u2 f) (mT gm us' f') w W) (key : ByteArray) (v : Int) (hp : putF 8 f us key v = (e0, us', f')) : Calls Try.prog 23 #[.pointer (some ⟨gg, 0, none⟩), .string key, .int .i64 v] W fun e w' => e = .returned (.int .i64 e0) ∧ ∃ b' u2', T2 n0 (gT gg sd b' us' u2' f') (mT gm us' f') w w' ∧ PutOut b b' us u2 u2' (getF f key).2 e0 := by
  refine (h.left (X' := pT gg sd b us u2 f key us' f' e0) (R := fun e => e = .returned (.int .i64 e0)) kpT kmT (fun A hA => gg_put hA key v hp)).mono ?_
  rintro e w' ⟨rfl, ⟨n, A, B, k1, k2, k3, k4, ⟨b', u2', k5, k6⟩, k7⟩, be, hn⟩
  exact ⟨rfl, b', u2', ⟨⟨n, A, B, k1, k2, k3, k4, k5, k7⟩, be, hn⟩, k6⟩
theorem T2.rng (h : T2 n0 (gT gg sd b us u2 f) Y w W) : 1 ≤ b ∧ b ≤ 8 ∧ 0 ≤ u2 ∧ u2 ≤ us ∧ us ≤ 256 := by
  obtain ⟨n, A, B, k1, k2, k3, k4, k5, k6⟩ := h.t
  have h1 := GG.rng k5
  have h2 := pow_le8 h1.2.1
  omega
theorem T2.cell (h : T2 n0 (gT gg sd b us u2 f) (mT gm us f) w W) : ∃ A c, W.cell? ⟨gm, 0, none⟩ = some (.slice A us.toNat c) := by
  obtain ⟨n, A, B, k1, k2, k3, k4, k5, k6⟩ := h.t
  exact MM.cell k6
theorem T2.ko (h : T2 n0 (gT gg sd b us u2 f) Y w W) : KeyOk f := by
  obtain ⟨n, A, B, k1, k2, k3, k4, k5, k6⟩ := h.t
  exact GG.ko k5
theorem T2.below {w3 : World} (M : T2 n0 X Y w W) (hX : Keeps X) (hY : Keeps Y) (hb : Below W.heap.size W w3) : T2 n0 X Y w w3 := ⟨M.t.below hX hY hb, M.be.trans (hb.mono M.be.size), M.hn⟩
theorem T2.nat (h : T2 n0 (gT gg sd b us u2 f) (mT gm us f) w W) : T2 n0 (gT gg sd b ((us.toNat : Nat) : Int) u2 f) (mT gm ((us.toNat : Nat) : Int) f) w W := by
  have hr := h.rng
  rw [show ((us.toNat : Nat) : Int) = us by omega]
  exact h
theorem T2.of_fin {dob : Int} {W' : World} (h : T2 n0 X Y w W) (hf : Fin n0 gg gm sd b us u2 dob W W') : ∃ b' us' u2' f', T2 n0 (gT gg sd b' us' u2' f') (mT gm us' f') w W' ∧ (dob ≠ 0 → b' = b ∧ u2' ≤ u2) ∧ (dob = 1 → u2' = u2) ∧ (dob = 2 → u2 - 1 ≤ u2') := by
  obtain ⟨b', us', u2', f', h1, h2, h3⟩ := hf
  exact ⟨b', us', u2', f', ⟨h1, h.be.trans (h2.mono h.hn), h.hn⟩, h3⟩
end
def sandglasslaw06_GrowMoves.f (a0 : Int) (a1 : Int) (l2 : List S35) : Option Bool := some true
set_option maxRecDepth 100000 in
set_option maxHeartbeats 8000000 in
theorem sandglasslaw06_GrowMoves.calls (a0 : Int) (a1 : Int) (A2 : Option Addr) (c2 : Nat) (l2 : List S35) (r : Bool) (w : World) (hr2 : Kd.C k35 w A2 l2.length l2) (hc2 : l2.length ≤ c2) (h : sandglasslaw06_GrowMoves.f a0 a1 l2 = some r) :
    Calls Try.prog 4 #[.int .u64 a0, .int .i64 a1, .slice A2 l2.length c2] w fun e w' => e = .returned (.bool r) ∧ Below w.heap.size w w' := by
  obtain rfl := Option.some.inj h
  have HR := Aside0.mk hr2
  clear h hr2
  have HLV := Aside0.mk @live_calls
  obtain ⟨rf, hrf⟩ : ∃ rf, fewB l2 100 = rf := ⟨_, rfl⟩
  have HFW := Aside0.mk hrf
  clear hrf
  by_cases hbi : a1 < 1 ∨ 8 < a1
  · have HN1 := Aside0.mk (gl_new_no a0 a1 w hbi)
    have HN2 := Aside0.mk (m6_new_no a1 w hbi)
    have HCX := HR
    have HBX := Aside0.mk (Below.refl w.heap.size w)
    clear hbi
    go_enter Try.func4, Try.ntmps4
    go_upto_region 2 with (go_at_call 12; refine HN1.out.mono ?_; rintro e w1 ⟨rfl, hw⟩; have hw2 := hw.symm; subst hw2)
    go_upto_region 3 with (go_at_call 13; refine HN2.out.mono ?_; rintro e w1 ⟨rfl, hw⟩; have hw2 := hw.symm; subst hw2)
    cases rf with
    | false =>
      go_wp2_with (first | (go_at_call 11; refine (HLV.out w2).mono ?_; rintro e w5 ⟨rfl, hb⟩; have HB5 := Aside0.mk hb; clear hb) | (go_at_call 10; refine (few_calls A2 c2 l2 100 _ HCX.out (by decide) _ HFW.out).mono ?_; rintro e w2 ⟨rfl, hb⟩; have HB2 := Aside0.mk (HBX.out.trans (hb.mono HBX.out.size)); clear hb))
      go_ret
      exact ⟨rfl, HB2.out.trans (HB5.out.mono HB2.out.size)⟩
    | true =>
      go_wp2_with (first | (go_at_call 11; refine (HLV.out w2).mono ?_; rintro e w5 ⟨rfl, hb⟩; have HB5 := Aside0.mk hb; clear hb) | (go_at_call 10; refine (few_calls A2 c2 l2 100 _ HCX.out (by decide) _ HFW.out).mono ?_; rintro e w2 ⟨rfl, hb⟩; have HB2 := Aside0.mk (HBX.out.trans (hb.mono HBX.out.size)); clear hb))
      go_ret
      exact ⟨rfl, HB2.out.trans (HB5.out.mono HB2.out.size)⟩
  obtain ⟨b, rfl⟩ : ∃ b : Nat, a1 = (b : Int) := ⟨a1.toNat, by omega⟩
  have hb0 : 1 ≤ b := by omega
  have hb8 : b ≤ 8 := by omega
  clear hbi
  obtain ⟨n0, hn0⟩ : ∃ n0, w.heap.size = n0 := ⟨_, rfl⟩
  have HN1 := Aside0.mk (gg_new (fun q => n0 ≤ q) a0 b w (fun q h => by rw [← hn0]; exact h) hb0 hb8)
  have HN0 := Aside0.mk hn0
  clear hn0
  go_enter Try.func4, Try.ntmps4
  go_upto_region 2 with (go_at_call 12; refine HN1.out.mono ?_; rintro e w1 ⟨gg, rfl, ht, hb⟩; have HG := Aside0.mk ht; have HB1 := Aside0.mk hb; clear ht hb)
  obtain ⟨gm, hgm⟩ : ∃ gm, w1.heap.size = gm := ⟨_, rfl⟩
  have HN2 := Aside0.mk (m6_new (fun q => w1.heap.size ≤ q) b w1 hb0 hb8 (fun q h => h))
  clear hb0 hb8 HN1
  go_upto_region 3 with (go_at_call 13; refine HN2.out.mono ?_; rintro e w3 ⟨rfl, hm, hb⟩; have HT3 := Aside0.mk (show T2 n0 (gT gg a0 b 0 0 (fun _ => none)) (mT gm 0 (fun _ => none)) w w3 from ⟨Two.mk2 kgT HG.out HG.out.size hb (by rw [← hgm]; exact hm), HB1.out.trans (hb.mono HB1.out.size), by have := HN0.out; omega⟩); clear hm hb)
  clear HN2 HG HB1 HN0 hgm
  have HCX := Aside0.mk (Kd.C_below HR.out HT3.out.be)
  have HBX := Aside0.mk HT3.out.be
  cases rf with
  | false =>
    go_wp2_with (first | (go_at_call 11; refine (HLV.out w2).mono ?_; rintro e w5 ⟨rfl, hb⟩; have HB5 := Aside0.mk hb; clear hb) | (go_at_call 10; refine (few_calls A2 c2 l2 100 _ HCX.out (by decide) _ HFW.out).mono ?_; rintro e w2 ⟨rfl, hb⟩; have HB2 := Aside0.mk (HBX.out.trans (hb.mono HBX.out.size)); clear hb))
    go_ret
    exact ⟨rfl, HB2.out.trans (HB5.out.mono HB2.out.size)⟩
  | true =>
    have HFT := Aside0.mk (fewB_true HFW.out)
    go_upto_region 5 with (go_at_call 10; refine (few_calls A2 c2 l2 100 _ HCX.out (by decide) _ HFW.out).mono ?_; rintro e w2 ⟨rfl, hb⟩; have HT := Aside0.mk (show T2 n0 (gT gg a0 b 0 0 (fun _ => none)) (mT gm 0 (fun _ => none)) w w2 from ⟨HT3.out.t.below kgT kmT hb, HT3.out.be.trans (hb.mono HT3.out.be.size), HT3.out.hn⟩); clear hb)
    clear HT3 HCX HBX
    go_upto_region 7 with (fail)
    go_wp2
    go_loopw [11, 12, 13, 14, 15, 16, 17, 18] (fun v11 v12 v13 v14 v15 v16 v17 v18 w' => ∃ (i b us : Nat) (u2 : Int) (f : KF), v11 = .int .i64 i ∧ Aside0 (i ≤ l2.length) ∧ Aside0 (T2 n0 (gT gg a0 b us u2 f) (mT gm us f) w w')) (fun v11 _ _ _ _ _ _ _ _ => l2.length - (intOf v11).toNat)
    case atStart => exact ⟨0, b, 0, 0, _, rfl, ⟨Nat.zero_le _⟩, HT⟩
    case round =>
      clear HT
      obtain ⟨i, b, us, u2, f, rfl, HI, HT⟩ := hrel
      by_cases hlt : i < l2.length
      · have d2 : decide (i < l2.length) = true := decide_eq_true hlt
        have HLT := Aside0.mk hlt
        obtain ⟨ad, ea, y0, y1, y2⟩ := at_T35 (Kd.C_below HR.out HT.out.be) (i : Int) (by omega) (by omega)
        subst ea
        have hcl := fun (W : World) (hb : Below w.heap.size w W) => at_T35 (Kd.C_below HR.out hb) (i : Int) (by omega) (by omega)
        simp only [Int.toNat_natCast] at y0 y1 y2 hcl
        have hsz := HFT.out.2 i hlt
        obtain ⟨dob, hdo⟩ : ∃ dob, (rd_T35 l2 (i : Int)).f0 = dob := ⟨_, rfl⟩
        obtain ⟨key, hkey⟩ : ∃ key, (rd_T35 l2 (i : Int)).f1 = key := ⟨_, rfl⟩
        obtain ⟨val, hval⟩ : ∃ val, (rd_T35 l2 (i : Int)).f2 = val := ⟨_, rfl⟩
        rw [hdo] at y0 hcl
        rw [hkey] at y1 hsz hcl
        rw [hval] at y2 hcl
        have HCL := Aside0.mk (show ∀ (W : World), Below w.heap.size w W → W.cell? (ad.add (i * 3)) = some (.int .i64 dob) ∧ W.cell? ⟨(ad.add (i * 3)).block, (ad.add (i * 3)).off + 1, none⟩ = some (.string key) ∧ W.cell? ⟨(ad.add (i * 3)).block, (ad.add (i * 3)).off + 2, none⟩ = some (.int .i64 val) from fun W hb => by obtain ⟨ad2, e2, k⟩ := hcl W hb; cases e2; exact k)
        have HKS := Aside0.mk (show key.size ≤ 4611686018427387904 by omega)
        have DW := Aside0.mk (show wrap64 ((i : Int) + 1) = (i : Int) + 1 by have := HFT.out.1; unfold wrap64; omega)
        have q0 := eq_true (show (0 : Int) ≤ (i : Int) by omega)
        have q1 := eq_true (show (i : Int) < (l2.length : Int) by omega)
        have q2 := eq_true hlt
        have HRG := Aside0.mk HT.out.rng
        obtain ⟨n, is, hget⟩ : ∃ n is, getF f key = (n, is) := ⟨_, _, rfl⟩
        have HGET := Aside0.mk hget
        clear hlt hsz hcl hdo hkey hval hget
        go_upto_region 11 with (go_at_call 19; refine HT.out.leftc.mono ?_; rintro e w3 ⟨rfl, hw⟩; have hw2 := hw.symm; subst hw2)
        go_upto_region 12 with (go_at_call 20; refine HT.out.bitsc.mono ?_; rintro e w3 ⟨rfl, hw⟩; have hw2 := hw.symm; subst hw2)
        go_upto_region 13 with (go_at_call 21; refine (HT.out.getc key HGET.out).mono ?_; rintro e w3 ⟨rfl, ht⟩; have HT3 := Aside0.mk ht; clear ht y0 y1 y2)
        obtain ⟨Am, cm, xc⟩ := HT3.out.cell
        simp only [Int.toNat_natCast] at xc
        obtain ⟨y0, y1, y2⟩ := HCL.out _ HT3.out.be
        have s1 : wrap64 (u2 - 1) = u2 - 1 := by have := HRG.out; unfold wrap64; omega
        have s2 : wrap64 (u2 - 2) = u2 - 2 := by have := HRG.out; unfold wrap64; omega
        have s3 : wrap64 (u2 - 3) = u2 - 3 := by have := HRG.out; unfold wrap64; omega
        have s4 : wrap64 ((us : Int) - 2) = (us : Int) - 2 := by have := HRG.out; unfold wrap64; omega
        have s5 : wrap64 ((b : Int) + 1) = (b : Int) + 1 := by have := HRG.out; unfold wrap64; omega
        clear HT
        go_upto_region 15 with (fail)
        clear xc
        by_cases hd0 : dob = 0
        · subst hd0
          obtain ⟨e0, us', f', hp⟩ : ∃ e0 us' f', putF 8 f us key val = (e0, us', f') := ⟨_, _, _, rfl⟩
          have se : (e0 == e0) = true := by simp
          have HC1 := Aside0.mk ((T2.drew HT3.out kgT kmT).mputc key val hp)
          have HC2 := Aside0.mk (fun w4 (h : T2 n0 (gT gg a0 b us u2 f) (mT gm us' f') w w4) => (T2.drew h kgT kmT).gputc key val hp)
          have HP := Aside0.mk hp
          clear hp
          go_upto_region 16 with (fail)
          go_region_held3 (fun w' => w'.cell? ⟨(ad.add (i * 3)).block, (ad.add (i * 3)).off + 1, none⟩ = some (.string key) ∧ w'.cell? ⟨(ad.add (i * 3)).block, (ad.add (i * 3)).off + 2, none⟩ = some (.int .i64 val)) ((first | assumption | exact (HCL.out _ (below_drew HT3.out.be)).2 | exact (HCL.out _ HT4.out.be).2)) ((go_at_call 22; refine HC1.out.mono ?_; rintro e w4 ⟨rfl, ht⟩; have HT4 := Aside0.mk ht; clear ht))
          go_upto_region 17 with (fail)
          go_region_held3 (fun w' => w'.cell? ⟨(ad.add (i * 3)).block, (ad.add (i * 3)).off + 1, none⟩ = some (.string key) ∧ w'.cell? ⟨(ad.add (i * 3)).block, (ad.add (i * 3)).off + 2, none⟩ = some (.int .i64 val)) ((first | assumption | exact (HCL.out _ (below_drew HT4.out.be)).2 | exact (HCL.out _ HT5.out.be).2)) ((go_at_call 23; refine (HC2.out _ HT4.out).mono ?_; rintro e w5 ⟨rfl, b', u2', ht, hpo⟩; have HT5 := Aside0.mk ht; have HPO := Aside0.mk hpo; clear ht hpo))
          clear HC1 HC2 y0 y1 y2
          go_upto_region 21 with (fail)
          obtain ⟨y0, y1, y2⟩ := HCL.out _ HT5.out.be
          have hgf : (getF f key).2 = is := by rw [HGET.out]
          have hr5 := HT5.out.rng
          by_cases he : e0 = 0
          · subst he
            cases is with
            | false =>
              by_cases hB : Begs b us u2
              · obtain ⟨rfl, rfl⟩ := HPO.out.beg rfl hgf hB
                have HBG := Aside0.mk (show sandglassref06_Begins.f 20 u2 (b : Int) (us : Int) = some true from by rw [begins_f (by have := HRG.out; omega) (by have := HRG.out; omega) (by have := HRG.out; omega), decide_eq_true hB])
                clear hB hgf hr5 HP HPO
                go_upto_region 24 with (first | (go_at_call 24; refine (sandglassref06_Begins.calls 20 _ _ _ _ _ HBG.out).mono ?_; rintro e w6 ⟨rfl, hd⟩; have HT6 := Aside0.mk (T2.below HT5.out kgT kmT hd.below); clear hd y0 y1 y2; obtain ⟨y0, y1, y2⟩ := HCL.out _ HT6.out.be) | (go_at_call 19; refine HT5.out.leftc.mono ?_; rintro e w7 ⟨rfl, hw⟩; have hw2 := hw.symm; subst hw2))
                go_wp2_with (go_at_call 20; refine HT6.out.bitsc.mono ?_; rintro e w7 ⟨rfl, hw⟩; have hw2 := hw.symm; subst hw2)
                refine ⟨⟨i + 1, _, _, _, _, by rw [DW.out]; rfl, ⟨by have := HLT.out; omega⟩, ⟨HT6.out.nat⟩⟩, ?_⟩
                rw [DW.out]; simp only [intOf]; have := HLT.out; omega
              · obtain ⟨rfl, rfl⟩ := HPO.out.new rfl hgf hB
                have HBG := Aside0.mk (show sandglassref06_Begins.f 20 u2 (b' : Int) (us : Int) = some false from by rw [begins_f (by have := HRG.out; omega) (by have := HRG.out; omega) (by have := HRG.out; omega), decide_eq_false hB])
                have t1 : decide (u2 < max (u2 - 2) 0) = false := decide_eq_false (by have := HRG.out; omega)
                have t2 : decide (max (u2 - 2) 0 < 0) = false := decide_eq_false (by omega)
                clear hB hgf hr5 HP HPO
                go_upto_region 26 with (first | (go_at_call 24; refine (sandglassref06_Begins.calls 20 _ _ _ _ _ HBG.out).mono ?_; rintro e w6 ⟨rfl, hd⟩; have HT6 := Aside0.mk (T2.below HT5.out kgT kmT hd.below); clear hd y0 y1 y2; obtain ⟨y0, y1, y2⟩ := HCL.out _ HT6.out.be) | (go_at_call 19; refine HT5.out.leftc.mono ?_; rintro e w7 ⟨rfl, hw⟩; have hw2 := hw.symm; subst hw2))
                go_wp2_with (go_at_call 20; refine HT6.out.bitsc.mono ?_; rintro e w7 ⟨rfl, hw⟩; have hw2 := hw.symm; subst hw2)
                refine ⟨⟨i + 1, _, _, _, _, by rw [DW.out]; rfl, ⟨by have := HLT.out; omega⟩, ⟨HT6.out.nat⟩⟩, ?_⟩
                rw [DW.out]; simp only [intOf]; have := HLT.out; omega
            | true =>
              obtain ⟨rfl, hx⟩ := HPO.out.old rfl hgf
              have t1 : decide (u2 < u2') = false := decide_eq_false (by have := HRG.out; omega)
              have t2 : decide (u2' < 0) = false := decide_eq_false (by omega)
              by_cases hx2 : u2' = max (u2 - 2) 0
              · have t3 : (u2' == max (u2 - 2) 0) = true := by simpa using hx2
                have t4 : (u2' != max (u2 - 2) 0) = false := by simpa using hx2
                clear hx hx2 hgf hr5 HP HPO
                go_wp2_with (first | (go_at_call 20; refine HT5.out.bitsc.mono ?_; rintro e w7 ⟨rfl, hw⟩; have hw2 := hw.symm; subst hw2) | (go_at_call 19; refine HT5.out.leftc.mono ?_; rintro e w7 ⟨rfl, hw⟩; have hw2 := hw.symm; subst hw2))
                refine ⟨⟨i + 1, _, _, _, _, by rw [DW.out]; rfl, ⟨by have := HLT.out; omega⟩, ⟨HT5.out.nat⟩⟩, ?_⟩
                rw [DW.out]; simp only [intOf]; have := HLT.out; omega
              · have hx3 := hx.resolve_left hx2
                have t3 : (u2' == max (u2 - 2) 0) = false := by simpa using hx2
                have t4 : (u2' != max (u2 - 2) 0) = true := by simpa using hx2
                have t5 : (u2' == max (u2 - 3) 0) = true := by simpa using hx3
                have t6 : (u2' != max (u2 - 3) 0) = false := by simpa using hx3
                clear hx hx2 hx3 hgf hr5 HP HPO
                go_wp2_with (first | (go_at_call 20; refine HT5.out.bitsc.mono ?_; rintro e w7 ⟨rfl, hw⟩; have hw2 := hw.symm; subst hw2) | (go_at_call 19; refine HT5.out.leftc.mono ?_; rintro e w7 ⟨rfl, hw⟩; have hw2 := hw.symm; subst hw2))
                refine ⟨⟨i + 1, _, _, _, _, by rw [DW.out]; rfl, ⟨by have := HLT.out; omega⟩, ⟨HT5.out.nat⟩⟩, ?_⟩
                rw [DW.out]; simp only [intOf]; have := HLT.out; omega
          · obtain ⟨rfl, rfl⟩ := HPO.out.no he
            have hn := (putF_no HT3.out.ko HP.out he).2.2
            obtain rfl : is = false := by rw [← hgf]; unfold getF; rw [hn]
            have t0 : (e0 == 0) = false := by simpa using he
            have t1 : (e0 != 0) = true := by simpa using he
            have t2 : decide (u2' < 0) = false := decide_eq_false (by have := HRG.out; omega)
            clear he hn hgf hr5 HP HPO
            go_wp2_with (first | (go_at_call 20; refine HT5.out.bitsc.mono ?_; rintro e w7 ⟨rfl, hw⟩; have hw2 := hw.symm; subst hw2) | (go_at_call 19; refine HT5.out.leftc.mono ?_; rintro e w7 ⟨rfl, hw⟩; have hw2 := hw.symm; subst hw2))
            refine ⟨⟨i + 1, _, _, _, _, by rw [DW.out]; rfl, ⟨by have := HLT.out; omega⟩, ⟨HT5.out.nat⟩⟩, ?_⟩
            rw [DW.out]; simp only [intOf]; have := HLT.out; omega
        · have b0 : (dob == 0) = false := by simpa using hd0
          have HC := Aside0.mk (does_calls HT3.out.t dob val key HKS.out)
          go_upto_region 21 with (go_at_call 14; refine HC.out.mono ?_; rintro e w5 ⟨rfl, hf⟩; obtain ⟨b', us', u2', f', ht, hk⟩ := T2.of_fin HT3.out hf; have HT5 := Aside0.mk ht; have HK := Aside0.mk hk; clear hf ht hk y0 y1 y2)
          obtain ⟨y0, y1, y2⟩ := HCL.out _ HT5.out.be
          obtain ⟨rfl, h5⟩ := HK.out.1 hd0
          have t1 : decide (u2 < u2') = false := decide_eq_false (by omega)
          have t2 : decide (u2' < 0) = false := decide_eq_false (by have := HT5.out.rng; omega)
          clear HC
          by_cases hd1 : dob = 1
          · have h6 := HK.out.2.1 hd1
            subst hd1
            subst h6
            clear h5 hd0
            go_wp2_with (first | (go_at_call 20; refine HT5.out.bitsc.mono ?_; rintro e w7 ⟨rfl, hw⟩; have hw2 := hw.symm; subst hw2) | (go_at_call 19; refine HT5.out.leftc.mono ?_; rintro e w7 ⟨rfl, hw⟩; have hw2 := hw.symm; subst hw2))
            refine ⟨⟨i + 1, _, _, _, _, by rw [DW.out]; rfl, ⟨by have := HLT.out; omega⟩, ⟨HT5.out.nat⟩⟩, ?_⟩
            rw [DW.out]; simp only [intOf]; have := HLT.out; omega
          have b1 : (dob == 1) = false := by simpa using hd1
          by_cases hd2 : dob = 2
          · have t3 : decide (u2' < u2 - 1) = false := decide_eq_false (by have := HK.out.2.2 hd2; omega)
            subst hd2
            clear h5 hd0 hd1
            go_wp2_with (first | (go_at_call 20; refine HT5.out.bitsc.mono ?_; rintro e w7 ⟨rfl, hw⟩; have hw2 := hw.symm; subst hw2) | (go_at_call 19; refine HT5.out.leftc.mono ?_; rintro e w7 ⟨rfl, hw⟩; have hw2 := hw.symm; subst hw2))
            refine ⟨⟨i + 1, _, _, _, _, by rw [DW.out]; rfl, ⟨by have := HLT.out; omega⟩, ⟨HT5.out.nat⟩⟩, ?_⟩
            rw [DW.out]; simp only [intOf]; have := HLT.out; omega
          have b2 : (dob == 2) = false := by simpa using hd2
          clear h5 hd0 hd1 hd2
          go_wp2_with (first | (go_at_call 20; refine HT5.out.bitsc.mono ?_; rintro e w7 ⟨rfl, hw⟩; have hw2 := hw.symm; subst hw2) | (go_at_call 19; refine HT5.out.leftc.mono ?_; rintro e w7 ⟨rfl, hw⟩; have hw2 := hw.symm; subst hw2))
          refine ⟨⟨i + 1, _, _, _, _, by rw [DW.out]; rfl, ⟨by have := HLT.out; omega⟩, ⟨HT5.out.nat⟩⟩, ?_⟩
          rw [DW.out]; simp only [intOf]; have := HLT.out; omega
      · obtain rfl : i = l2.length := by have := HI.out; omega
        have d2 : decide (l2.length < l2.length) = false := decide_eq_false hlt
        have HB := Aside0.mk HT.out.be
        clear hlt HI
        go_wp2_with (go_at_call 11; refine (HLV.out _).mono ?_; rintro e w8 ⟨rfl, hb⟩; have HB8 := Aside0.mk hb; clear hb)
        go_ret
        exact ⟨rfl, HB.out.trans (HB8.out.mono HB.out.size)⟩
end Go.Proofs.Ytmnikjhnomphmaa.Q


namespace Go.Proofs.Ytmnikjhnomphmaa.Op
open Go.RowKit Go.Proofs.YtmnikjhnomphmaaW.PrintWords Go.WideShapes

/-- Whatever reads as a datum of the type t is told by the kind d, and is as 'ok' says. -/
def Opens (P : Program) (t : TypeId) {α : Type} (d : Kd α) (ok : α → Prop) : Prop :=
  ∀ {H : Type} {enc : TypeId × Value → H} {w : World} {base : Nat} {spare : Nat → Bool} {held : Bool} {fuel : Nat} {cs : List Value} {x : DataW H × List MemPlace},
    DataW.trod enc P w base spare held fuel t cs = some x → ∃ a, d.K w a cs ∧ ok a

theorem Opens.int {P : Program} {t : TypeId} {k : IntKind} (hu : P.underlying t = some (.int k)) : Opens P t (Kd.int k) (fun a => (Lit.int k a).wf = true) := by
  intro H enc w base spare held fuel cs x h
  obtain ⟨n, rfl, _, hw⟩ := DataW.trod_int hu h
  exact ⟨n, rfl, hw⟩
theorem Opens.bool {P : Program} {t : TypeId} (hu : P.underlying t = some .bool) : Opens P t Kd.bool (fun _ => True) := by
  intro H enc w base spare held fuel cs x h
  obtain ⟨n, rfl, _⟩ := DataW.trod_bool hu h
  exact ⟨n, rfl, trivial⟩
theorem Opens.string {P : Program} {t : TypeId} (hu : P.underlying t = some .string) : Opens P t Kd.string (fun s => s.size ≤ maxLen) := by
  intro H enc w base spare held fuel cs x h
  obtain ⟨n, rfl, _, hs⟩ := DataW.trod_string hu h
  exact ⟨n, rfl, hs⟩
theorem Opens.slice {P : Program} {t e : TypeId} {α : Type} [Inhabited α] {d : Kd α} {ok : α → Prop} (hu : P.underlying t = some (.slice e)) (he : Opens P e d ok) (hc : P.cellsOf e = d.sz) :
    Opens P t (Kd.slice e d) (fun xs => xs.length ≤ maxLen ∧ ∀ x ∈ xs, ok x) := by
  intro H enc w base spare held fuel cs x h
  rcases Deep.open_slice hu h with ⟨rfl, _⟩ | ⟨a, len, cap, m, n, D, Pl, rfl, _, hl, hm, hmm, _, hel⟩
  · exact ⟨[], ⟨none, 0, rfl, Nat.le_refl _, Kd.C_nil d w⟩, ⟨Nat.zero_le _, fun x hx => by cases hx⟩⟩
  · have hle : len ≤ m := by rw [hmm]; split <;> omega
    obtain ⟨f, hf⟩ := Deep.choose_lt (α := α) (n := len) (p := fun i p => ok p ∧ ∃ c, c.length = d.sz ∧ d.K w p c ∧ ∀ j u, c[j]? = some u → w.cell? (a.add (i * d.sz + j)) = some u) (fun i hi => by
      obtain ⟨cs', h1, h2⟩ := hel i (by omega)
      obtain ⟨y, hK, hok⟩ := he h2
      obtain ⟨_, hlen, hcell⟩ := World.cells?_some h1
      refine ⟨y, hok, cs', by rw [hlen, hc], hK, fun j u hj => ?_⟩
      have hlt : j < P.cellsOf e := by rw [← hlen]; exact (List.getElem?_eq_some_iff.1 hj).1
      have := hcell j hlt
      rw [hc, Deep.add_add] at this
      rw [this, hj])
    refine ⟨(List.range len).map f, ⟨some a, cap, by simp, by simpa using hl, ?_⟩, by simpa using Nat.le_trans hl hm, ?_⟩
    · refine ⟨rfl, ?_, fun _ => ⟨a, rfl, fun j p hj => ?_⟩⟩
      · have : maxLen ≤ 9223372036854775807 := by decide
        simp; omega
      · rw [List.getElem?_map] at hj
        obtain ⟨q, hq, rfl⟩ := Option.map_eq_some_iff.1 hj
        have hlt := (List.getElem?_eq_some_iff.1 hq).1
        rw [List.length_range] at hlt
        rw [List.getElem?_range hlt] at hq
        obtain rfl := Option.some.inj hq
        exact (hf j hlt).2
    · intro x hx
      obtain ⟨i, hi, rfl⟩ := List.mem_map.1 hx
      exact (hf i (List.mem_range.1 hi)).1
theorem Opens.iso {P : Program} {t : TypeId} {α β : Type} {d : Kd α} {ok : α → Prop} (h : Opens P t d ok) (f : β → α) (g : α → β) (hfg : ∀ y, f (g y) = y) : Opens P t (Kd.iso d f) (fun b => ok (f b)) := by
  intro H enc w base spare held fuel cs x hx
  obtain ⟨a, hK, hok⟩ := h hx
  exact ⟨g a, by show d.K w (f (g a)) cs; rw [hfg]; exact hK, by show ok (f (g a)); rw [hfg]; exact hok⟩

/-- Parts in line: each of a type, at a place. -/
def OpensG (P : Program) {β : Type} (ty : β → TypeId) (at_ : β → Nat) (l : List β) (off : Nat) {α : Type} (d : Kd α) (ok : α → Prop) : Prop :=
  ∀ {H : Type} {enc : TypeId × Value → H} {w : World} {base : Nat} {spare : Nat → Bool} {held : Bool} {fuel : Nat} {cs : List Value} {ys : List (DataW H × List MemPlace)},
    cs.length = off + d.sz → l.mapM (fun b => DataW.trod enc P w base spare held fuel (ty b) ((cs.drop (at_ b)).take (P.cellsOf (ty b)))) = some ys → ∃ a, d.K w a (cs.drop off) ∧ ok a

theorem OpensG.one {P : Program} {β : Type} {ty : β → TypeId} {at_ : β → Nat} {b : β} {off : Nat} {α : Type} {d : Kd α} {ok : α → Prop} (h : Opens P (ty b) d ok) (ha : at_ b = off) (hc : P.cellsOf (ty b) = d.sz) : OpensG P ty at_ [b] off d ok := by
  intro H enc w base spare held fuel cs ys hl hm
  simp only [List.mapM_cons, List.mapM_nil, Option.pure_def, Option.bind_eq_bind, Option.bind_eq_some_iff] at hm
  obtain ⟨y, hy, _⟩ := hm
  rw [ha, hc] at hy
  obtain ⟨a, hK, hok⟩ := h hy
  rw [List.take_of_length_le (by rw [List.length_drop]; omega)] at hK
  exact ⟨a, hK, hok⟩
theorem OpensG.cons {P : Program} {β : Type} {ty : β → TypeId} {at_ : β → Nat} {b : β} {l : List β} {off : Nat} {α γ : Type} {d : Kd α} {ok : α → Prop} {d2 : Kd γ} {ok2 : γ → Prop} (h : Opens P (ty b) d ok) (ha : at_ b = off) (hc : P.cellsOf (ty b) = d.sz)
    (h2 : OpensG P ty at_ l (off + d.sz) d2 ok2) : OpensG P ty at_ (b :: l) off (Kd.pair d d2) (fun p => ok p.1 ∧ ok2 p.2) := by
  intro H enc w base spare held fuel cs ys hl hm
  simp only [List.mapM_cons, Option.pure_def, Option.bind_eq_bind, Option.bind_eq_some_iff] at hm
  obtain ⟨y, hy, zs, hz, _⟩ := hm
  rw [ha, hc] at hy
  obtain ⟨a, hK, hok⟩ := h hy
  have hl' : cs.length = off + (d.sz + d2.sz) := hl
  obtain ⟨c, hK2, hok2⟩ := h2 (by omega) hz
  refine ⟨(a, c), ⟨_, _, ?_, hK, hK2⟩, hok, hok2⟩
  rw [← List.drop_drop, List.take_append_drop]
theorem Opens.struct {P : Program} {t : TypeId} {fs : Array Field} {α : Type} {d : Kd α} {ok : α → Prop} (hu : P.underlying t = some (.struct fs)) (hc : P.cellsOf t = d.sz) (h : OpensG P (fun f : Field => f.type) (fun f => f.offset) fs.toList 0 d ok) : Opens P t d ok := by
  intro H enc w base spare held fuel cs x hx
  cases fuel with
  | zero => simp [DataW.trod] at hx
  | succ n =>
    unfold DataW.trod at hx
    rw [hu] at hx
    split at hx <;> (try simp_all; done)
    all_goals
      rename_i heq
      injection heq with h1
      injection h1 with h2
      subst h2
      split at hx
      · rename_i hl
        obtain ⟨ys, hy, _⟩ := Option.map_eq_some_iff.1 hx
        have := h (by rw [hl, hc]; omega) hy
        simpa using this
      · cases hx
theorem Opens.array {P : Program} {t e : TypeId} {n : Nat} {α : Type} {d : Kd α} {ok : α → Prop} (hu : P.underlying t = some (.array n e)) (hc : P.cellsOf t = d.sz) (h : OpensG P (fun _ : Nat => e) (fun i => i * P.cellsOf e) (List.range n) 0 d ok) : Opens P t d ok := by
  intro H enc w base spare held fuel cs x hx
  cases fuel with
  | zero => simp [DataW.trod] at hx
  | succ m =>
    unfold DataW.trod at hx
    rw [hu] at hx
    split at hx <;> (try simp_all; done)
    all_goals
      rename_i heq
      injection heq with h1
      injection h1 with h2 h3
      subst h2 h3
      split at hx
      · rename_i hl
        obtain ⟨ys, hy, _⟩ := Option.map_eq_some_iff.1 hx
        have := h (by rw [hl, hc]; omega) hy
        simpa using this
      · cases hx
theorem okWide_array {P : Program} {w : World} {r : Reach} {base : Nat} {t e : TypeId} {n : Nat} {v : Value} (ht : P.underlying t = some (.array n e)) (h : Value.okWide P w r base t v) : ∃ cs, v = .agg cs := by
  unfold Value.okWide at h
  rw [ht] at h
  obtain ⟨cs, hcs, _⟩ := h
  exact ⟨cs, hcs⟩
theorem agg_of {cs : Array Value} {l : List Value} (h : (Value.agg cs).cells.toList = l) : cs = l.toArray := by
  rw [← h]; rfl
theorem slice_of {a A : Option Addr} {n m c C : Nat} (h : (Value.slice a n c).cells.toList = [.slice A m C]) : a = A ∧ n = m ∧ c = C := by
  simpa [Value.cells] using h
theorem trod_lt_all {H : Type} {enc : TypeId × Value → H} {P : Program} {w : World} {base : Nat} {spare : Nat → Bool} {held : Bool} {t : TypeId} {v : Value} {d : DataW H} {p : List MemPlace} (h : DataW.Trod enc P w base spare held t v d p) : ∀ x ∈ p, x.block < w.heap.size := by
  obtain ⟨m, hm⟩ := h
  exact DataW.trod_lt m _ _ _ hm
theorem Opens.out {P : Program} {t : TypeId} {α : Type} {d : Kd α} {ok : α → Prop} (h : Opens P t d ok) {H : Type} {enc : TypeId × Value → H} {w : World} {base : Nat} {spare : Nat → Bool} {held : Bool} {fuel : Nat} {cs : List Value} {x : DataW H × List MemPlace}
    (hx : DataW.trod enc P w base spare held fuel t cs = some x) : ∃ a, d.K w a cs ∧ ok a := h hx
attribute [irreducible] Opens OpensG
end Go.Proofs.Ytmnikjhnomphmaa.Op


namespace Go.Proofs.Ytmnikjhnomphmaa.growMoves
open Go.RowKit Go.Proofs.YtmnikjhnomphmaaW.PrintWords Go.Proofs.YtmnikjhnomphmaaW.PrintLast Go.Proofs.YtmnikjhnomphmaaW.PrintMore Go.Proofs.Ytmnikjhnomphmaa.Q
def Pure : Prop := ∀ (a0 : Int) (a1 : Int) (a2 : List S35), (Lit.int .u64 a0).wf = true → (Lit.int .i64 a1).wf = true → (a2.length ≤ maxLen ∧ ∀ x ∈ a2, ((Lit.int .i64 x.f0).wf = true ∧ x.f1.size ≤ maxLen ∧ (Lit.int .i64 x.f2).wf = true)) → sandglasslaw06_GrowMoves.f a0 a1 a2 = some true
end Go.Proofs.Ytmnikjhnomphmaa.growMoves


namespace Go.Proofs.Ytmnikjhnomphmaa.growMoves
open Go.Proofs.Ytmnikjhnomphmaa.Q
theorem pure : Pure := by
  unfold Pure
  intros
  rfl
end Go.Proofs.Ytmnikjhnomphmaa.growMoves


namespace Go.Proofs.Ytmnikjhnomphmaa.growMoves
open Go.ChangeShapes Go.WideShapes Go.ChangeAt Go.RowKit
open Go.Proofs.Ytmnikjhnomphmaa.Op Go.Proofs.YtmnikjhnomphmaaW.PrintWords Go.Proofs.Ytmnikjhnomphmaa.Q
set_option linter.unusedVariables false
theorem own : ownKnob Try.prog.godebug = none := by kernel_rfl
theorem laidOut : laidOutB Try.prog = true := by kernel_rfl
instance : Inhabited S35 := ⟨z35⟩
set_option maxRecDepth 100000 in
set_option maxHeartbeats 2000000 in
theorem lifted (os : Os) (started : os.Started) (H : Type) (enc : TypeId × Value → H) :
    ReturnsInHanded {} Try.checked os 4 .any (Rows.growMovesSpec.pre6 enc Try.prog Try.f4 Rows.growMovesRow.domain false) (Rows.growMovesSpec.post enc Try.prog Try.f4 false true false false) := by
  refine returnsInHanded_of_change_sized (C := Try.checked) own started (by kernel_rfl) Try.func4
    (ChangeSpec.witness6 (enc := enc) (C := Try.checked) false ⟨#[], #[.int .u64 0, .int .i64 0, .slice none 0 0], []⟩ 8 (by kernel_rfl) (by kernel_rfl) (by kernel_rfl) (by kernel_rfl)) ?_
  intro W base args ds gs before hval0 hW hcnd hsz0 _
  have hval : ∀ (j : Nat) t v, Try.f4.params[j]? = some t → args[j]? = some v → Value.okWide Try.prog W .any base t v := hval0
  have hW' := hW
  obtain ⟨p, q, hA0, hV, rfl, hfz, hnd⟩ := hW
  have hA : DataW.TrodAll enc Try.prog W 0 (fun _ => true) true Try.f4.params.toList args.toList ds p := hA0
  rw [Try.params4] at hA hval
  obtain ⟨v0, vs0, d0, ds0, p0, q0, hargs, rfl, rfl, h0, r0⟩ := trodAll_cons hA
  obtain ⟨v1, vs1, d1, ds1, p1, q1, rfl, rfl, rfl, h1, r1⟩ := trodAll_cons r0
  obtain ⟨v2, vs2, d2, ds2, p2, q2, rfl, rfl, rfl, h2, r2⟩ := trodAll_cons r1
  obtain ⟨rfl, rfl, rfl⟩ := trodAll_nil r2
  obtain rfl : args = #[v0, v1, v2] := by cases args; simp_all
  obtain ⟨rfl, rfl⟩ := trodVars_none hV
  have k0 := h0
  obtain ⟨fu0, hf0⟩ := h0
  obtain ⟨va0, rfl⟩ := okWide_int Try.underlying22 (hval 0 22 v0 rfl rfl)
  obtain ⟨a0, hcsa0, oka0⟩ := ((Opens.int Try.underlying22)).out hf0
  obtain rfl : a0 = va0 := by have e_ : [_] = [_] := hcsa0; simp at e_; exact e_.symm
  have k1 := h1
  obtain ⟨fu1, hf1⟩ := h1
  obtain ⟨va1, rfl⟩ := okWide_int Try.underlying3 (hval 1 3 v1 rfl rfl)
  obtain ⟨a1, hcsa1, oka1⟩ := ((Opens.int Try.underlying3)).out hf1
  obtain rfl : a1 = va1 := by have e_ : [_] = [_] := hcsa1; simp at e_; exact e_.symm
  have k2 := h2
  obtain ⟨fu2, hf2⟩ := h2
  obtain ⟨va2, vn2, vc2, rfl⟩ := okWide_slice Try.underlying23 (hval 2 23 v2 rfl rfl)
  obtain ⟨a2, ⟨Aa2, ca2, hcsa2, hca2, hra2⟩, oka2⟩ := ((Opens.slice Try.underlying23 (Opens.iso (Opens.struct Try.underlying35 (by kernel_rfl) (OpensG.cons (Opens.int Try.underlying3) (by kernel_rfl) (by kernel_rfl) (OpensG.cons (Opens.string Try.underlying9) (by kernel_rfl) (by kernel_rfl) (OpensG.one (Opens.int Try.underlying3) (by kernel_rfl) (by kernel_rfl))))) (fun x : S35 => (x.f0, x.f1, x.f2)) (fun y => (⟨y.1, y.2.1, y.2.2⟩ : S35)) (fun _ => rfl)) (by kernel_rfl))).out hf2
  obtain ⟨e1_, e2_, e3_⟩ := slice_of hcsa2
  subst va2; subst vn2; subst vc2
  clear hA0 hval0 hsz0
  have hp := pure a0 a1 a2 oka0 oka1 oka2
  refine (sandglasslaw06_GrowMoves.calls a0 a1 Aa2 ca2 a2 true W hra2 hca2 hp).mono fun e W' ⟨he, bel0⟩ => ?_
  have bel : Below W.heap.size W W' := bel0
  subst he
  exact ⟨_, rfl, _, _, _, [], _, [], hW', trodAll_mk1 (shut_bool Try.underlying4 _), (trodAll_cons_mk (Below.trod laidOut (by kernel_rfl) (of_decide_eq_true (by kernel_rfl)) k0 bel (trod_lt_all k0)) (trodAll_cons_mk (Below.trod laidOut (by kernel_rfl) (of_decide_eq_true (by kernel_rfl)) k1 bel (trod_lt_all k1)) (trodAll_cons_mk (Below.trod laidOut (by kernel_rfl) (of_decide_eq_true (by kernel_rfl)) k2 bel (trod_lt_all k2)) trodAll_mk0))), rfl, bel.frame _, fun h => by cases h⟩
theorem over : Rows.growMovesRow.holds Try.pinned (OpenSpec.ofChange Rows.growMovesSpec) :=
  OpenClaim.holds_of_wide 4 Try.f4 rfl rfl rfl rfl rfl rfl rfl ⟨rfl, rfl, rfl, rfl, rfl⟩ rfl rfl rfl rfl rfl (by kernel_rfl) Try.func4 (by kernel_rfl)
    (of_decide_eq_true (by kernel_rfl)) (by unfold Func.isWrapper; first | (rw [if_pos (by decide +kernel)]; kernel_rfl) | (rw [if_neg (by decide +kernel)]; exact ⟨rfl, rfl⟩))
    (fun os started H enc _ => lifted os started H enc)
end Go.Proofs.Ytmnikjhnomphmaa.growMoves
namespace Go.Proofs.Ytmnikjhnomphmaa
/-- The statement. -/
theorem growMoves_holds : Rows.GrowMovesSaid := growMoves.over
#print axioms growMoves_holds
end Go.Proofs.Ytmnikjhnomphmaa

