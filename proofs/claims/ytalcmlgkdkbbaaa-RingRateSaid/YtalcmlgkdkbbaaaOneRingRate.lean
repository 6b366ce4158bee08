/- The statement RingRate: whatever the input, the law's function returns true and leaves its arguments as they were. No further condition. -/
import Derived.Test.YtalcmlgkdkbbaaaWFoot
import Derived.Deep.Slices
import Derived.OpenShut
import Derived.SizedLaws
import Derived.WideShapes
import Derived.Test.YtalcmlgkdkbbaaaQ16
import Derived.Test.YtalcmlgkdkbbaaaQ18
import Derived.Test.YtalcmlgkdkbbaaaQ17
import Derived.Test.YtalcmlgkdkbbaaaQ19
import Derived.Test.YtalcmlgkdkbbaaaQ3
import Derived.IntWalk
import Derived.Test.YtalcmlgkdkbbaaaQ29
import Derived.Test.YtalcmlgkdkbbaaaQ23
import Derived.Test.YtalcmlgkdkbbaaaQ24
import Derived.Test.YtalcmlgkdkbbaaaQ0
import Derived.Test.YtalcmlgkdkbbaaaQ35
import Derived.Test.YtalcmlgkdkbbaaaRows
import Derived.WalkKit
import Derived.ProofKit
import Derived.ShutString
import Derived.ChangeOld
import Derived.Below
namespace Go.Proofs.Ytalcmlgkdkbbaaa.Op
open Go.RowKit Go.Proofs.YtalcmlgkdkbbaaaW.PrintWords Go.WideShapes

/-- Whatever reads as a datum of the type t is told by the kind d, and is as 'ok' says. -/
def Opens (P : Program) (t : TypeId) {α : Type} (d : Kd α) (ok : α → Prop) : Prop :=
  ∀ {H : Type} {enc : TypeId × Value → H} {w : World} {base : Nat} {spare : Nat → Bool} {held : Bool} {fuel : Nat} {cs : List Value} {x : DataW H × List MemPlace},
    DataW.trod enc P w base spare held fuel t cs = some x → ∃ a, d.K w a cs ∧ ok a

theorem Opens.int {P : Program} {t : TypeId} {k : IntKind} (hu : P.underlying t = some (.int k)) : Opens P t (Kd.int k) (fun a => (Lit.int k a).wf = true) := by
  intro H enc w base spare held fuel cs x h
  obtain ⟨n, rfl, _, hw⟩ := DataW.trod_int hu h
  exact ⟨n, rfl, hw⟩
theorem Opens.bool {P : Program} {t : TypeId} (hu : P.underlying t = some .bool) : Opens P t Kd.bool (fun _ => True) := by
  intro H enc w base spare held fuel cs x h
  obtain ⟨n, rfl, _⟩ := DataW.trod_bool hu h
  exact ⟨n, rfl, trivial⟩
theorem Opens.string {P : Program} {t : TypeId} (hu : P.underlying t = some .string) : Opens P t Kd.string (fun s => s.size ≤ maxLen) := by
  intro H enc w base spare held fuel cs x h
  obtain ⟨n, rfl, _, hs⟩ := DataW.trod_string hu h
  exact ⟨n, rfl, hs⟩
theorem Opens.slice {P : Program} {t e : TypeId} {α : Type} [Inhabited α] {d : Kd α} {ok : α → Prop} (hu : P.underlying t = some (.slice e)) (he : Opens P e d ok) (hc : P.cellsOf e = d.sz) :
    Opens P t (Kd.slice e d) (fun xs => xs.length ≤ maxLen ∧ ∀ x ∈ xs, ok x) := by
  intro H enc w base spare held fuel cs x h
  rcases Deep.open_slice hu h with ⟨rfl, _⟩ | ⟨a, len, cap, m, n, D, Pl, rfl, _, hl, hm, hmm, _, hel⟩
  · exact ⟨[], ⟨none, 0, rfl, Nat.le_refl _, Kd.C_nil d w⟩, ⟨Nat.zero_le _, fun x hx => by cases hx⟩⟩
  · have hle : len ≤ m := by rw [hmm]; split <;> omega
    obtain ⟨f, hf⟩ := Deep.choose_lt (α := α) (n := len) (p := fun i p => ok p ∧ ∃ c, c.length = d.sz ∧ d.K w p c ∧ ∀ j u, c[j]? = some u → w.cell? (a.add (i * d.sz + j)) = some u) (fun i hi => by
      obtain ⟨cs', h1, h2⟩ := hel i (by omega)
      obtain ⟨y, hK, hok⟩ := he h2
      obtain ⟨_, hlen, hcell⟩ := World.cells?_some h1
      refine ⟨y, hok, cs', by rw [hlen, hc], hK, fun j u hj => ?_⟩
      have hlt : j < P.cellsOf e := by rw [← hlen]; exact (List.getElem?_eq_some_iff.1 hj).1
      have := hcell j hlt
      rw [hc, Deep.add_add] at this
      rw [this, hj])
    refine ⟨(List.range len).map f, ⟨some a, cap, by simp, by simpa using hl, ?_⟩, by simpa using Nat.le_trans hl hm, ?_⟩
    · refine ⟨rfl, ?_, fun _ => ⟨a, rfl, fun j p hj => ?_⟩⟩
      · have : maxLen ≤ 9223372036854775807 := by decide
        simp; omega
      · rw [List.getElem?_map] at hj
        obtain ⟨q, hq, rfl⟩ := Option.map_eq_some_iff.1 hj
        have hlt := (List.getElem?_eq_some_iff.1 hq).1
        rw [List.length_range] at hlt
        rw [List.getElem?_range hlt] at hq
        obtain rfl := Option.some.inj hq
        exact (hf j hlt).2
    · intro x hx
      obtain ⟨i, hi, rfl⟩ := List.mem_map.1 hx
      exact (hf i (List.mem_range.1 hi)).1
theorem Opens.iso {P : Program} {t : TypeId} {α β : Type} {d : Kd α} {ok : α → Prop} (h : Opens P t d ok) (f : β → α) (g : α → β) (hfg : ∀ y, f (g y) = y) : Opens P t (Kd.iso d f) (fun b => ok (f b)) := by
  intro H enc w base spare held fuel cs x hx
  obtain ⟨a, hK, hok⟩ := h hx
  exact ⟨g a, by show d.K w (f (g a)) cs; rw [hfg]; exact hK, by show ok (f (g a)); rw [hfg]; exact hok⟩

/-- Parts in line: each of a type, at a place. -/
def OpensG (P : Program) {β : Type} (ty : β → TypeId) (at_ : β → Nat) (l : List β) (off : Nat) {α : Type} (d : Kd α) (ok : α → Prop) : Prop :=
  ∀ {H : Type} {enc : TypeId × Value → H} {w : World} {base : Nat} {spare : Nat → Bool} {held : Bool} {fuel : Nat} {cs : List Value} {ys : List (DataW H × List MemPlace)},
    cs.length = off + d.sz → l.mapM (fun b => DataW.trod enc P w base spare held fuel (ty b) ((cs.drop (at_ b)).take (P.cellsOf (ty b)))) = some ys → ∃ a, d.K w a (cs.drop off) ∧ ok a

theorem OpensG.one {P : Program} {β : Type} {ty : β → TypeId} {at_ : β → Nat} {b : β} {off : Nat} {α : Type} {d : Kd α} {ok : α → Prop} (h : Opens P (ty b) d ok) (ha : at_ b = off) (hc : P.cellsOf (ty b) = d.sz) : OpensG P ty at_ [b] off d ok := by
  intro H enc w base spare held fuel cs ys hl hm
  simp only [List.mapM_cons, List.mapM_nil, Option.pure_def, Option.bind_eq_bind, Option.bind_eq_some_iff] at hm
  obtain ⟨y, hy, _⟩ := hm
  rw [ha, hc] at hy
  obtain ⟨a, hK, hok⟩ := h hy
  rw [List.take_of_length_le (by rw [List.length_drop]; omega)] at hK
  exact ⟨a, hK, hok⟩
theorem OpensG.cons {P : Program} {β : Type} {ty : β → TypeId} {at_ : β → Nat} {b : β} {l : List β} {off : Nat} {α γ : Type} {d : Kd α} {ok : α → Prop} {d2 : Kd γ} {ok2 : γ → Prop} (h : Opens P (ty b) d ok) (ha : at_ b = off) (hc : P.cellsOf (ty b) = d.sz)
    (h2 : OpensG P ty at_ l (off + d.sz) d2 ok2) : OpensG P ty at_ (b :: l) off (Kd.pair d d2) (fun p => ok p.1 ∧ ok2 p.2) := by
  intro H enc w base spare held fuel cs ys hl hm
  simp only [List.mapM_cons, Option.pure_def, Option.bind_eq_bind, Option.bind_eq_some_iff] at hm
  obtain ⟨y, hy, zs, hz, _⟩ := hm
  rw [ha, hc] at hy
  obtain ⟨a, hK, hok⟩ := h hy
  have hl' : cs.length = off + (d.sz + d2.sz) := hl
  obtain ⟨c, hK2, hok2⟩ := h2 (by omega) hz
  refine ⟨(a, c), ⟨_, _, ?_, hK, hK2⟩, hok, hok2⟩
  rw [← List.drop_drop, List.take_append_drop]
theorem Opens.struct {P : Program} {t : TypeId} {fs : Array Field} {α : Type} {d : Kd α} {ok : α → Prop} (hu : P.underlying t = some (.struct fs)) (hc : P.cellsOf t = d.sz) (h : OpensG P (fun f : Field => f.type) (fun f => f.offset) fs.toList 0 d ok) : Opens P t d ok := by
  intro H enc w base spare held fuel cs x hx
  cases fuel with
  | zero => simp [DataW.trod] at hx
  | succ n =>
    unfold DataW.trod at hx
    rw [hu] at hx
    split at hx <;> (try simp_all; done)
    all_goals
      rename_i heq
      injection heq with h1
      injection h1 with h2
      subst h2
      split at hx
      · rename_i hl
        obtain ⟨ys, hy, _⟩ := Option.map_eq_some_iff.1 hx
        have := h (by rw [hl, hc]; omega) hy
        simpa using this
      · cases hx
theorem Opens.array {P : Program} {t e : TypeId} {n : Nat} {α : Type} {d : Kd α} {ok : α → Prop} (hu : P.underlying t = some (.array n e)) (hc : P.cellsOf t = d.sz) (h : OpensG P (fun _ : Nat => e) (fun i => i * P.cellsOf e) (List.range n) 0 d ok) : Opens P t d ok := by
  intro H enc w base spare held fuel cs x hx
  cases fuel with
  | zero => simp [DataW.trod] at hx
  | succ m =>
    unfold DataW.trod at hx
    rw [hu] at hx
    split at hx <;> (try simp_all; done)
    all_goals
      rename_i heq
      injection heq with h1
      injection h1 with h2 h3
      subst h2 h3
      split at hx
      · rename_i hl
        obtain ⟨ys, hy, _⟩ := Option.map_eq_some_iff.1 hx
        have := h (by rw [hl, hc]; omega) hy
        simpa using this
      · cases hx
theorem okWide_array {P : Program} {w : World} {r : Reach} {base : Nat} {t e : TypeId} {n : Nat} {v : Value} (ht : P.underlying t = some (.array n e)) (h : Value.okWide P w r base t v) : ∃ cs, v = .agg cs := by
  unfold Value.okWide at h
  rw [ht] at h
  obtain ⟨cs, hcs, _⟩ := h
  exact ⟨cs, hcs⟩
theorem agg_of {cs : Array Value} {l : List Value} (h : (Value.agg cs).cells.toList = l) : cs = l.toArray := by
  rw [← h]; rfl
theorem slice_of {a A : Option Addr} {n m c C : Nat} (h : (Value.slice a n c).cells.toList = [.slice A m C]) : a = A ∧ n = m ∧ c = C := by
  simpa [Value.cells] using h
theorem trod_lt_all {H : Type} {enc : TypeId × Value → H} {P : Program} {w : World} {base : Nat} {spare : Nat → Bool} {held : Bool} {t : TypeId} {v : Value} {d : DataW H} {p : List MemPlace} (h : DataW.Trod enc P w base spare held t v d p) : ∀ x ∈ p, x.block < w.heap.size := by
  obtain ⟨m, hm⟩ := h
  exact DataW.trod_lt m _ _ _ hm
theorem Opens.out {P : Program} {t : TypeId} {α : Type} {d : Kd α} {ok : α → Prop} (h : Opens P t d ok) {H : Type} {enc : TypeId × Value → H} {w : World} {base : Nat} {spare : Nat → Bool} {held : Bool} {fuel : Nat} {cs : List Value} {x : DataW H × List MemPlace}
    (hx : DataW.trod enc P w base spare held fuel t cs = some x) : ∃ a, d.K w a cs ∧ ok a := h hx
attribute [irreducible] Opens OpensG
end Go.Proofs.Ytalcmlgkdkbbaaa.Op


namespace Go.Proofs.Ytalcmlgkdkbbaaa.La
open Go.RowKit Go.Proofs.YtalcmlgkdkbbaaaW.PrintWords Go.Proofs.YtalcmlgkdkbbaaaW.PrintLast Go.Proofs.YtalcmlgkdkbbaaaW.PrintMore Go.Proofs.Ytalcmlgkdkbbaaa.Q
set_option linter.unusedSimpArgs false
set_option linter.unusedVariables false
theorem wr {x : Int} (h0 : -9223372036854775808 ≤ x) (h1 : x < 9223372036854775808) : wrap64 x = x := by unfold wrap64; omega
theorem mx_le (a b : Int) : a ≤ mx a b ∧ b ≤ mx a b ∧ (mx a b = a ∨ mx a b = b) := by unfold mx; split <;> omega
theorem mx_self (u : Int) : mx u u = u := by unfold mx; split <;> rfl
/-- So many, from a number on. -/
def sm (F : Int → Int) (a : Int) : Nat → Int
  | 0 => 0
  | n + 1 => F a + sm F (a + 1) n
theorem sm_congr {F G : Int → Int} : ∀ {n : Nat} {a : Int}, (∀ b, a ≤ b → b < a + (n : Int) → F b = G b) → sm F a n = sm G a n := by
  intro n
  induction n with
  | zero => intro a _; rfl
  | succ n ih =>
    intro a h
    simp only [sm]
    rw [h a (by omega) (by omega), ih (fun b h1 h2 => h b (by omega) (by omega))]
theorem sm_add (F : Int → Int) : ∀ (m n : Nat) (a : Int), sm F a (m + n) = sm F a m + sm F (a + (m : Int)) n := by
  intro m
  induction m with
  | zero => intro n a; simp [sm]
  | succ m ih =>
    intro n a
    rw [show m + 1 + n = (m + n) + 1 by omega]
    simp only [sm]
    rw [ih, show a + 1 + (m : Int) = a + ((m + 1 : Nat) : Int) by omega]
    omega
theorem sm_snoc (F : Int → Int) (n : Nat) (a : Int) : sm F a (n + 1) = sm F a n + F (a + (n : Int)) := by
  rw [sm_add F n 1 a]; simp [sm]
theorem sm_bd {F : Int → Int} {M : Int} : ∀ {n : Nat} {a : Int}, (∀ b, a ≤ b → b < a + (n : Int) → 0 ≤ F b ∧ F b ≤ M) → 0 ≤ sm F a n ∧ sm F a n ≤ M * n := by
  intro n
  induction n with
  | zero => intro a _; simp [sm]
  | succ n ih =>
    intro a h
    have h1 := h a (by omega) (by omega)
    have h2 := ih (a := a + 1) (fun b x y => h b (by omega) (by omega))
    have e : M * ((n + 1 : Nat) : Int) = M * (n : Int) + M := by rw [show ((n + 1 : Nat) : Int) = (n : Int) + 1 by omega, Int.mul_add, Int.mul_one]
    simp only [sm]
    omega
theorem sm_nn {F : Int → Int} : ∀ {n : Nat} {a : Int}, (∀ b, a ≤ b → b < a + (n : Int) → 0 ≤ F b) → 0 ≤ sm F a n := by
  intro n
  induction n with
  | zero => intro a _; simp [sm]
  | succ n ih =>
    intro a h
    have h1 := h a (by omega) (by omega)
    have h2 := ih (a := a + 1) (fun b x y => h b (by omega) (by omega))
    simp only [sm]
    omega
theorem sm_zero {F : Int → Int} {n : Nat} {a : Int} (h : ∀ b, a ≤ b → b < a + (n : Int) → F b = 0) : sm F a n = 0 := by
  rw [sm_congr (G := fun _ => 0) h]
  clear h
  induction n generalizing a with
  | zero => rfl
  | succ n ih => simp only [sm]; rw [ih]; omega
theorem sm_le {F : Int → Int} : ∀ {n : Nat} {a b : Int}, (∀ c, a ≤ c → c < a + (n : Int) → 0 ≤ F c) → a ≤ b → b < a + (n : Int) → F b ≤ sm F a n := by
  intro n
  induction n with
  | zero => intro a b _ h1 h2; omega
  | succ n ih =>
    intro a b h h1 h2
    simp only [sm]
    have h3 := h a (by omega) (by omega)
    by_cases e : b = a
    · subst e
      have := sm_nn (F := F) (n := n) (a := b + 1) (fun c x y => h c (by omega) (by omega))
      omega
    · have := ih (a := a + 1) (b := b) (fun c x y => h c (by omega) (by omega)) (by omega) (by omega)
      omega
/-- One more in one of them. -/
theorem sm_up {F G : Int → Int} {x : Int} : ∀ {n : Nat} {a t : Int}, a ≤ t → t < a + (n : Int) → (∀ b, a ≤ b → b < a + (n : Int) → G b = F b + (if b = t then x else 0)) → sm G a n = sm F a n + x := by
  intro n
  induction n with
  | zero => intro a t h1 h2; omega
  | succ n ih =>
    intro a t h1 h2 h
    simp only [sm]
    rw [h a (by omega) (by omega)]
    by_cases e : a = t
    · subst e
      rw [if_pos rfl, sm_congr (F := G) (G := F) (fun b x y => by rw [h b (by omega) (by omega), if_neg (by omega), Int.add_zero])]
      omega
    · rw [if_neg e, ih (t := t) (by omega) (by omega) (fun b x y => h b (by omega) (by omega))]
      omega
theorem sm_period1 {F : Int → Int} {n : Nat} (hp : ∀ b, F (b + (n : Int)) = F b) (a : Int) : sm F (a + 1) n = sm F a n := by
  have h1 := sm_snoc F n a
  have h2 : sm F a (n + 1) = F a + sm F (a + 1) n := rfl
  rw [hp] at h1
  omega
theorem sm_period {F : Int → Int} {n : Nat} (hp : ∀ b, F (b + (n : Int)) = F b) (a : Int) : sm F a n = sm F 0 n := by
  have up : ∀ (m : Nat), sm F (m : Int) n = sm F 0 n := by
    intro m
    induction m with
    | zero => rfl
    | succ m ih => rw [show ((m + 1 : Nat) : Int) = (m : Int) + 1 by omega, sm_period1 hp, ih]
  have dn : ∀ (m : Nat), sm F (-(m : Int)) n = sm F 0 n := by
    intro m
    induction m with
    | zero => rfl
    | succ m ih => rw [← sm_period1 hp, show -((m + 1 : Nat) : Int) + 1 = -(m : Int) by omega, ih]
  by_cases h : 0 ≤ a
  · have := up a.toNat; rwa [Int.toNat_of_nonneg h] at this
  · have := dn (-a).toNat; rwa [Int.toNat_of_nonneg (by omega), Int.neg_neg] at this
/-- All together. -/
def tot : List Int → Int
  | [] => 0
  | h :: t => h + tot t
theorem rd_nat (s : List Int) (i : Nat) : rd s (i : Int) = s.getD i 0 := by unfold rd; rw [Int.toNat_natCast]
theorem rd_cons (h : Int) (t : List Int) (i : Int) (hi : 0 ≤ i) : rd (h :: t) (i + 1) = rd t i := by
  unfold rd
  rw [show (i + 1).toNat = i.toNat + 1 by omega, List.getD_cons_succ]
theorem tot_sm : ∀ (s : List Int) (a : Int) (F : Int → Int), (∀ i : Nat, i < s.length → F (a + (i : Int)) = rd s (i : Int)) → tot s = sm F a s.length := by
  intro s
  induction s with
  | nil => intro a F _; rfl
  | cons h t ih =>
    intro a F hF
    simp only [tot, List.length_cons, sm]
    have h0 := hF 0 (by simp)
    rw [ih (a + 1) F (fun i hi => by
      have := hF (i + 1) (by simp; omega)
      rw [show a + 1 + (i : Int) = a + ((i + 1 : Nat) : Int) by omega, this, show ((i + 1 : Nat) : Int) = (i : Int) + 1 by omega, rd_cons _ _ _ (by omega)])]
    have e : rd (h :: t) ((0 : Nat) : Int) = h := rfl
    rw [e, show a + ((0 : Nat) : Int) = a by omega] at h0
    omega
/-- The number, not above T and above T less B, that is i by B. -/
theorem at_num {B T i : Int} (hB : 1 ≤ B) (h0 : 0 ≤ i) (h1 : i < B) : T - B < T - (T - i) % B ∧ T - (T - i) % B ≤ T ∧ (T - (T - i) % B) % B = i := by
  have e0 := Int.emod_nonneg (T - i) (show B ≠ 0 by omega)
  have e1 := Int.emod_lt_of_pos (T - i) (show 0 < B by omega)
  refine ⟨by omega, by omega, ?_⟩
  have e2 := Int.emod_add_mul_ediv (T - i) B
  rw [show T - (T - i) % B = i + B * ((T - i) / B) by omega, Int.add_mul_emod_self_left, Int.emod_eq_of_lt h0 h1]
theorem num_at {B T b : Int} (hB : 1 ≤ B) (h0 : T - B < b) (h1 : b ≤ T) : T - (T - b % B) % B = b := by
  have m0 := Int.emod_nonneg b (show B ≠ 0 by omega)
  have m1 := Int.emod_lt_of_pos b (show 0 < B by omega)
  have e2 := Int.emod_add_mul_ediv b B
  have : (T - b % B) % B = T - b := by
    rw [show T - b % B = (T - b) + B * (b / B) by omega, Int.add_mul_emod_self_left, Int.emod_eq_of_lt (by omega) (by omega)]
  omega
theorem mod_inj {B b c : Int} (hB : 1 ≤ B) (h : b % B = c % B) (h0 : b ≤ c) (h1 : c < b + B) : b = c := by
  have e1 := Int.emod_add_mul_ediv b B
  have e2 := Int.emod_add_mul_ediv c B
  have e3 : c - b = B * (c / B - b / B) := by rw [Int.mul_sub]; omega
  have h4 : (c - b) % B = c - b := Int.emod_eq_of_lt (by omega) (by omega)
  rw [e3, Int.mul_emod_right] at h4
  omega
/-- What was let in in the bucket of a number. -/
def inF (s : List Int) (A B b : Int) : Int := if b < 0 ∨ A < b ∨ s = [] then 0 else rd s (b % B)
/-- Sums that may be, at a number. -/
structure OkS (s : List Int) (A B l : Int) : Prop where
  len : (s.length : Int) = B
  low : ∀ i : Int, 0 ≤ i → i < B → 0 ≤ rd s i ∧ rd s i ≤ l
  far : ∀ i : Int, A < i → i < B → rd s i = 0
theorem OkS.at {s : List Int} {A B l b : Int} (h : OkS s A B l) (hB : 1 ≤ B) (hA : 0 ≤ A) (h0 : A - B < b) (h1 : b ≤ A) : inF s A B b = rd s (b % B) := by
  unfold inF
  by_cases hb : b < 0
  · rw [if_pos (Or.inl hb)]
    have : b % B = b + B := by rw [← Int.add_emod_right, Int.emod_eq_of_lt (by omega) (by omega)]
    rw [this, h.far _ (by omega) (by omega)]
  · have hn : s ≠ [] := fun e => by have := h.len; rw [e] at this; simp at this; omega
    rw [if_neg (by rintro (h2 | h2 | h2); omega; omega; exact hn h2)]
theorem OkS.inb {s : List Int} {A B l : Int} (h : OkS s A B l) (hB : 1 ≤ B) (hl : 0 ≤ l) (b : Int) : 0 ≤ inF s A B b ∧ inF s A B b ≤ l := by
  unfold inF
  split
  · omega
  · exact h.low _ (Int.emod_nonneg _ (by omega)) (Int.emod_lt_of_pos _ (by omega))
theorem OkS.tot {s : List Int} {A B l : Int} (h : OkS s A B l) (hB : 1 ≤ B) (hA : 0 ≤ A) : tot s = sm (inF s A B) (A - B + 1) B.toNat := by
  have hBn : ((B.toNat : Nat) : Int) = B := by omega
  have hlen : s.length = B.toNat := by have := h.len; omega
  rw [sm_congr (G := fun b => rd s (b % B)) (fun b x y => h.at hB hA (by omega) (by omega)), sm_period (F := fun b => rd s (b % B)) (fun b => by show rd s ((b + (B.toNat : Int)) % B) = _; rw [hBn, Int.add_emod_right]) (A - B + 1), tot_sm s 0 (fun b => rd s (b % B)) (fun i hi => by
    show rd s ((0 + (i : Int)) % B) = _
    rw [Int.zero_add, Int.emod_eq_of_lt (by omega) (by omega)]), hlen]
/-- The sums at a later number. -/
def atL (s : List Int) (A B T : Int) : List Int := (List.range B.toNat).map fun (i : Nat) => inF s A B (T - (T - (i : Int)) % B)
theorem atL_len (s : List Int) (A B T : Int) (hB : 1 ≤ B) : ((atL s A B T).length : Int) = B := by
  unfold atL; rw [List.length_map, List.length_range]; omega
theorem rd_atL {s : List Int} {A B T i : Int} (h0 : 0 ≤ i) (h1 : i < B) : rd (atL s A B T) i = inF s A B (T - (T - i) % B) := by
  unfold rd atL
  rw [List.getD_eq_getElem?_getD, List.getElem?_map, List.getElem?_range (by omega)]
  simp only [Option.map_some, Option.getD_some]
  rw [Int.toNat_of_nonneg h0]
theorem atL_eq {s d : List Int} {A B T : Int} (hB : 1 ≤ B) (hl : (d.length : Int) = B) (h : ∀ b, T - B < b → b ≤ T → rd d (b % B) = inF s A B b) : d = atL s A B T := by
  apply List.ext_getElem
  · have := atL_len s A B T hB; omega
  · intro i h1 h2
    have e1 : d[i] = rd d (i : Int) := by rw [rd_nat, List.getD_eq_getElem?_getD, List.getElem?_eq_getElem h1]; rfl
    have e2 : (atL s A B T)[i] = rd (atL s A B T) (i : Int) := by rw [rd_nat, List.getD_eq_getElem?_getD, List.getElem?_eq_getElem h2]; rfl
    rw [e1, e2, rd_atL (by omega) (by omega)]
    have q := at_num (B := B) (T := T) (i := (i : Int)) hB (by omega) (by omega)
    rw [← h _ q.1 q.2.1, q.2.2]
theorem inF_atL {s : List Int} {A B T b : Int} (hB : 1 ≤ B) (h0 : T - B < b) (h1 : b ≤ T) : inF (atL s A B T) T B b = inF s A B b := by
  have hn : atL s A B T ≠ [] := fun e => by have := atL_len s A B T hB; rw [e] at this; simp at this; omega
  by_cases hb : b < 0
  · unfold inF; rw [if_pos (Or.inl hb), if_pos (Or.inl hb)]
  · rw [show inF (atL s A B T) T B b = rd (atL s A B T) (b % B) from if_neg (by rintro (h2 | h2 | h2); omega; omega; exact hn h2), rd_atL (Int.emod_nonneg _ (by omega)) (Int.emod_lt_of_pos _ (by omega)), num_at hB h0 h1]
theorem atL_ok {s : List Int} {A B T l : Int} (hB : 1 ≤ B) (hl : 0 ≤ l) (hF : ∀ b, 0 ≤ inF s A B b ∧ inF s A B b ≤ l) : OkS (atL s A B T) T B l := by
  refine ⟨atL_len _ _ _ _ hB, fun i h0 h1 => ?_, fun i h0 h1 => ?_⟩
  · rw [rd_atL h0 h1]; exact hF _
  · by_cases hT : 0 ≤ i
    · rw [rd_atL hT h1]
      have q := at_num (B := B) (T := T) hB hT h1
      unfold inF
      rw [if_pos (Or.inl ?_)]
      by_cases hc : 0 ≤ T - (T - i) % B
      · have e := mod_inj (B := B) (b := T - (T - i) % B) (c := i) hB (by rw [q.2.2, Int.emod_eq_of_lt hT h1]) (by omega) (by omega)
        omega
      · omega
    · unfold rd
      rw [show i.toNat = 0 by omega]
      have e := rd_atL (s := s) (A := A) (B := B) (T := T) (i := 0) (by omega) (by omega)
      unfold rd at e
      rw [show (0 : Int).toNat = 0 from rfl] at e
      rw [e]
      have q := at_num (B := B) (T := T) (i := 0) hB (by omega) (by omega)
      unfold inF
      rw [if_pos (Or.inl (by omega))]
/-- One more let in at the last number. -/
def addW (d : List Int) (T B x : Int) : List Int := d.set (T % B).toNat (rd d (T % B) + x)
theorem rd_set {d : List Int} {i j v : Int} (h0 : 0 ≤ i) (h1 : i < (d.length : Int)) (hj : 0 ≤ j) : rd (d.set i.toNat v) j = if j = i then v else rd d j := by
  unfold rd
  rw [List.getD_eq_getElem?_getD, List.getElem?_set]
  by_cases e : j = i
  · subst e
    rw [if_pos rfl, if_pos (by omega), if_pos rfl]; rfl
  · rw [if_neg (by omega), if_neg e, List.getD_eq_getElem?_getD]
theorem inF_addW {d : List Int} {T B x b : Int} (hl : (d.length : Int) = B) (hB : 1 ≤ B) (hT : 0 ≤ T) (h0 : T - B < b) (h1 : b ≤ T) : inF (addW d T B x) T B b = inF d T B b + (if b = T then x else 0) := by
  have hn : d ≠ [] := fun e => by rw [e] at hl; simp at hl; omega
  have hn2 : addW d T B x ≠ [] := fun e => by
    have e1 : (addW d T B x).length = d.length := by unfold addW; rw [List.length_set]
    rw [e] at e1; simp at e1; omega
  by_cases hb : b < 0
  · unfold inF; rw [if_pos (Or.inl hb), if_pos (Or.inl hb), if_neg (by omega)]; rfl
  · rw [show inF (addW d T B x) T B b = rd (addW d T B x) (b % B) from if_neg (by rintro (h2 | h2 | h2); omega; omega; exact hn2 h2), show inF d T B b = rd d (b % B) from if_neg (by rintro (h2 | h2 | h2); omega; omega; exact hn h2)]
    unfold addW
    rw [rd_set (Int.emod_nonneg _ (by omega)) (by rw [hl]; exact Int.emod_lt_of_pos _ (by omega)) (Int.emod_nonneg _ (by omega))]
    by_cases e : b = T
    · subst e; rw [if_pos rfl, if_pos rfl]
    · rw [if_neg (fun h => e (mod_inj hB h h1 (by omega))), if_neg e]; omega
theorem addW_ok {d : List Int} {T B x l : Int} (h : OkS d T B l) (hB : 1 ≤ B) (hT : 0 ≤ T) (hx : 0 ≤ x) (hl : rd d (T % B) + x ≤ l) : OkS (addW d T B x) T B l := by
  have m0 := Int.emod_nonneg T (show B ≠ 0 by omega)
  have m1 := Int.emod_lt_of_pos T (show 0 < B by omega)
  refine ⟨by unfold addW; rw [List.length_set]; exact h.len, fun i h0 h1 => ?_, fun i h0 h1 => ?_⟩
  · unfold addW
    rw [rd_set m0 (by rw [h.len]; exact m1) h0]
    split
    · have := h.low _ m0 m1; omega
    · exact h.low i h0 h1
  · unfold addW
    rw [rd_set m0 (by rw [h.len]; exact m1) (by omega), if_neg ?_]
    · exact h.far i h0 h1
    · intro e
      rw [Int.emod_eq_of_lt hT (by omega)] at e
      omega
/-- The first number behind which what is left is at most so much. -/
def kF (F : Int → Int) (most : Int) (b : Int) : Nat → Int
  | 0 => b
  | n + 1 => if sm F b (n + 1) ≤ most then b else kF F most (b + 1) n
theorem kF_bd (F : Int → Int) (most : Int) : ∀ (n : Nat) (b : Int), b ≤ kF F most b n ∧ kF F most b n ≤ b + (n : Int) := by
  intro n
  induction n with
  | zero => intro b; simp [kF]
  | succ n ih =>
    intro b
    simp only [kF]
    split
    · omega
    · have := ih (b + 1); omega
theorem kF_ok {F : Int → Int} {most : Int} (hm : 0 ≤ most) : ∀ (n : Nat) (b : Int), sm F (kF F most b n) (b + (n : Int) - kF F most b n).toNat ≤ most := by
  intro n
  induction n with
  | zero =>
    intro b
    simp only [kF]
    rw [show (b + ((0 : Nat) : Int) - b).toNat = 0 by omega]
    exact hm
  | succ n ih =>
    intro b
    simp only [kF]
    split
    · rw [show (b + ((n + 1 : Nat) : Int) - b).toNat = n + 1 by omega]; assumption
    · have := ih (b + 1)
      rwa [show b + 1 + (n : Int) = b + ((n + 1 : Nat) : Int) by omega] at this
theorem kF_least {F : Int → Int} {most : Int} : ∀ (n : Nat) (b c : Int), b ≤ c → c < kF F most b n → most < sm F c (b + (n : Int) - c).toNat := by
  intro n
  induction n with
  | zero => intro b c h1 h2; simp only [kF] at h2; omega
  | succ n ih =>
    intro b c h1 h2
    simp only [kF] at h2
    split at h2
    · omega
    · rename_i hgt
      by_cases e : c = b
      · subst e
        rw [show (c + ((n + 1 : Nat) : Int) - c).toNat = n + 1 by omega]
        omega
      · have := ih (b + 1) c (by omega) h2
        rwa [show b + 1 + (n : Int) = b + ((n + 1 : Nat) : Int) by omega] at this
theorem kF_congr {F G : Int → Int} {most : Int} : ∀ {n : Nat} {b : Int}, (∀ c, b ≤ c → c < b + (n : Int) → F c = G c) → kF F most b n = kF G most b n := by
  intro n
  induction n with
  | zero => intro b _; rfl
  | succ n ih =>
    intro b h
    simp only [kF]
    rw [sm_congr h, ih (fun c x y => h c (by omega) (by omega))]
/-- How long till what counts is at most so much. -/
def waitF (d : List Int) (T B Sl a most : Int) : Int :=
  if sm (inF d T B) (T - B + 1) B.toNat ≤ most then 0 else (kF (inF d T B) most (T - B + 1) B.toNat + B - 1) * Sl - a
end Go.Proofs.Ytalcmlgkdkbbaaa.La


namespace Go.Proofs.Ytalcmlgkdkbbaaa.La
open Go.RowKit Go.Proofs.YtalcmlgkdkbbaaaW.PrintWords Go.Proofs.YtalcmlgkdkbbaaaW.PrintLast Go.Proofs.YtalcmlgkdkbbaaaW.PrintMore Go.Proofs.Ytalcmlgkdkbbaaa.Q
set_option linter.unusedSimpArgs false
set_option linter.unusedVariables false
def timeF (t : Int) : Bool := decide (0 ≤ t) && decide (t ≤ 1099511627776)
def weighF (w : Int) : Bool := decide (1 ≤ w) && decide (w ≤ 1048576)
theorem time_f (t : Int) : ring_time.f t = some (timeF t) := by
  unfold ring_time.f timeF; by_cases h : t ≥ 0 <;> simp [h, show (0 ≤ t) = (t ≥ 0) from rfl]
theorem weigh_f (t : Int) : policy_Weighs.f t = some (weighF t) := by
  unfold policy_Weighs.f policy_within_int.f weighF; by_cases h : t ≥ 1 <;> simp [h, show (1 ≤ t) = (t ≥ 1) from rfl]
theorem time_is {t : Int} : timeF t = true ↔ 0 ≤ t ∧ t ≤ 1099511627776 := by unfold timeF; simp
theorem weigh_is {t : Int} : weighF t = true ↔ 1 ≤ t ∧ t ≤ 1048576 := by unfold weighF; simp
theorem rd_drop (l : List Int) (i : Nat) (h : i < l.length) : l.drop i = rd l (i : Int) :: l.drop (i + 1) := by
  rw [List.drop_eq_getElem_cons h, rd_nat, List.getD_eq_getElem?_getD, List.getElem?_eq_getElem h]; rfl
theorem rd_mem {l : List Int} {i : Int} (h0 : 0 ≤ i) (h1 : i < (l.length : Int)) : rd l i ∈ l := by
  unfold rd
  rw [List.getD_eq_getElem?_getD, List.getElem?_eq_getElem (show i.toNat < l.length by omega)]
  exact List.getElem_mem _
theorem mem_rd {l : List Int} {x : Int} (h : x ∈ l) : ∃ i : Nat, i < l.length ∧ rd l (i : Int) = x := by
  obtain ⟨i, hi, rfl⟩ := List.getElem_of_mem h
  exact ⟨i, hi, by rw [rd_nat, List.getD_eq_getElem?_getD, List.getElem?_eq_getElem hi]; rfl⟩
def okS (l : Int) (s : List Int) : Bool := s.all fun x => decide (0 ≤ x) && decide (x ≤ l)
theorem okS_is {l : Int} {s : List Int} : okS l s = true ↔ ∀ x ∈ s, 0 ≤ x ∧ x ≤ l := by unfold okS; simp
theorem okS_cons {l x : Int} {t : List Int} : okS l (x :: t) = (decide (0 ≤ x) && decide (x ≤ l) && okS l t) := by unfold okS; simp
theorem tot_bd {l : Int} {s : List Int} (h : ∀ x ∈ s, 0 ≤ x ∧ x ≤ l) : 0 ≤ tot s ∧ tot s ≤ l * s.length := by
  induction s with
  | nil => simp [tot]
  | cons x t ih =>
    have h1 := h x (by simp)
    have h2 := ih (fun y hy => h y (by simp [hy]))
    have e : l * (((x :: t).length : Nat) : Int) = l * (t.length : Int) + l := by rw [List.length_cons, show ((t.length + 1 : Nat) : Int) = (t.length : Int) + 1 by omega, Int.mul_add, Int.mul_one]
    simp only [tot]
    omega
theorem tot_append (s t : List Int) : tot (s ++ t) = tot s + tot t := by
  induction s with
  | nil => simp [tot]
  | cons x s ih => simp only [List.cons_append, tot, ih]; omega
theorem sum_l0 (s : List Int) (hs : s.length ≤ 1000) (l : Int) (hl : l ≤ 1048576) (N : Nat) : ∀ (d i : Nat) (n : Int), s.length - i = d → i ≤ s.length → 2 * d < N → 0 ≤ n → n ≤ 1048576 * i → ring_sum.l0 N l n s (s.length : Int) (i : Int) = some (if okS l (s.drop i) then (n + tot (s.drop i), true) else (0, false)) := by
  induction N using Nat.strongRecOn with
  | _ N ih =>
    intro d i n hd hi hN n0 n1
    obtain ⟨M, rfl⟩ : ∃ M, N = M + 1 := ⟨N - 1, by omega⟩
    simp only [ring_sum.l0]
    by_cases hlt : (i : Int) < (s.length : Int)
    · obtain ⟨P, rfl⟩ : ∃ P, M = P + 1 := ⟨M - 1, by omega⟩
      rw [if_pos hlt, if_pos (by omega), if_pos hlt, rd_drop s i (by omega), okS_cons]
      generalize rd s (i : Int) = x
      by_cases c1 : x < 0
      · rw [if_pos c1]; simp [ring_sum.j1, show ¬ 0 ≤ x by omega]
      rw [if_neg c1]
      by_cases c2 : x > l
      · rw [decide_eq_true c2]; simp [ring_sum.j1, show ¬ x ≤ l by omega]
      rw [decide_eq_false c2]
      simp only [ring_sum.j1, Bool.false_eq_true, if_false]
      rw [wr (x := n + x) (by omega) (by omega), wr (x := (i : Int) + 1) (by omega) (by omega), show (i : Int) + 1 = ((i + 1 : Nat) : Int) by omega, ih P (by omega) (d - 1) (i + 1) _ (by omega) (by omega) (by omega) (by omega) (by omega)]
      simp only [decide_eq_true (show 0 ≤ x by omega), decide_eq_true (show x ≤ l by omega), Bool.true_and, tot]
      rw [Int.add_assoc]
    · rw [if_neg hlt, List.drop_eq_nil_of_le (by omega)]; simp [okS, tot]
theorem sum_f {n : Nat} (hn : 2100 ≤ n) (s : List Int) (hs : s.length ≤ 1000) (l : Int) (hl : l ≤ 1048576) : ring_sum.f n s l = some (if okS l s then (tot s, true) else (0, false)) := by
  unfold ring_sum.f
  have := sum_l0 s hs l hl n s.length 0 0 (by omega) (by omega) (by omega) (by omega) (by omega)
  simpa using this
theorem pol_is {l w b : Int} (h : polOk 3 l w b = true) : 1 ≤ l ∧ l ≤ 1048576 ∧ 1 ≤ w ∧ w ≤ 1048576 ∧ 1 ≤ b ∧ b ≤ 16 ∧ b * (w / b) = w ∧ 1 ≤ w / b ∧ Int.tdiv w b = w / b := by
  unfold polOk withinB at h
  simp only [Bool.and_eq_true, decide_eq_true_eq] at h
  obtain ⟨⟨⟨_, hl⟩, hw⟩, hb⟩ := h
  rw [if_pos trivial] at hb
  unfold ringB withinB at hb
  simp only [Bool.and_eq_true, decide_eq_true_eq, beq_iff_eq] at hb
  obtain ⟨⟨hb0, hb1⟩, hm⟩ := hb
  have e : Int.tdiv w b = w / b := Int.tdiv_eq_ediv_of_nonneg (by omega)
  have e2 : w % b = 0 := by rw [← Int.tmod_eq_emod_of_nonneg (show 0 ≤ w by omega)]; exact hm
  have e3 : b * (w / b) = w := Int.mul_ediv_cancel' (Int.dvd_of_emod_eq_zero e2)
  have e4 : 1 ≤ w / b := by
    by_cases hc : 1 ≤ w / b
    · exact hc
    · have h0 : 0 ≤ w / b := Int.ediv_nonneg (by omega) (by omega)
      rw [show w / b = 0 by omega] at e3
      omega
  exact ⟨hl.1, hl.2, hw.1, hw.2, hb0, hb1, e3, e4, e⟩
theorem num_bd {t sl : Int} (h0 : 0 ≤ t) (h1 : 1 ≤ sl) : 0 ≤ t / sl ∧ t / sl ≤ t := ⟨Int.ediv_nonneg h0 (by omega), Int.ediv_le_self _ h0⟩
theorem number_f {l w b t : Int} (hp : polOk 3 l w b = true) (h0 : 0 ≤ t) (h1 : t ≤ 4611686018427387904) : ring_number.f 3 l w b t = some (t / (w / b)) := by
  have q := pol_is hp
  have nb := num_bd h0 q.2.2.2.2.2.2.2.1
  unfold ring_number.f policy_Slot.f slotV
  rw [Option.bind_some, if_pos hp, if_pos rfl, q.2.2.2.2.2.2.2.2, if_neg (by omega), Int.tdiv_eq_ediv_of_nonneg h0, wr (by omega) (by omega)]
/-- No sums behind a number. -/
def farZ (A : Int) (s : List Int) : Bool := (s.drop (A + 1).toNat).all fun x => decide (x = 0)
def mayF (k l w b a v : Int) (s : List Int) (h : List S54) : Bool :=
  polOk k l w b && (decide (k = 3) && (timeF a && (decide (v = 0) && (decide (h.length = 0) && ((decide (s.length = 0) || decide ((s.length : Int) = b)) && (okS l s && (decide (tot s ≤ l) && farZ (a / (w / b)) s)))))))
theorem tot_nn {s : List Int} (h : ∀ x ∈ s, 0 ≤ x) : 0 ≤ tot s := by
  induction s with
  | nil => simp [tot]
  | cons x t ih => have := ih (fun z hz => h z (by simp [hz])); have := h x (by simp); simp only [tot]; omega
theorem tot_zero {s : List Int} (h : ∀ x ∈ s, 0 ≤ x) : tot s = 0 ↔ ∀ x ∈ s, x = 0 := by
  induction s with
  | nil => simp [tot]
  | cons x t ih =>
    have h1 := h x (by simp)
    have h2 := ih (fun y hy => h y (by simp [hy]))
    have h3 : 0 ≤ tot t := by
      exact (tot_nn (fun y hy => h y (by simp [hy])))
    simp only [tot, List.forall_mem_cons]
    constructor
    · intro e; exact ⟨by omega, h2.1 (by omega)⟩
    · intro e; have := h2.2 e.2; omega
theorem may_f {n : Nat} (hn : 2200 ≤ n) (k l w b a v : Int) (s : List Int) (h : List S54) (hs : s.length ≤ 1000) : ring_May.f n k l w b a v s h = some (mayF k l w b a v s h) := by
  obtain ⟨n, rfl⟩ : ∃ m, n = m + 1 := ⟨n - 1, by omega⟩
  unfold ring_May.f policy_Check.f mayF
  simp only [Option.bind_some, time_f]
  cases hp : polOk k l w b
  · simp [ring_May.j0]
  by_cases h1 : k = 3
  rotate_left
  · simp [h1, ring_May.j0]
  subst h1
  have q := pol_is hp
  cases h2 : timeF a
  · simp [ring_May.j0]
  have ha := time_is.1 h2
  by_cases h3 : v = 0
  rotate_left
  · simp [h3, ring_May.j0]
  by_cases h4 : h.length = 0
  rotate_left
  · simp [h3, h4, ring_May.j0]
  have nb := num_bd ha.1 q.2.2.2.2.2.2.2.1
  have J : ring_May.j0 (n + 1) false 3 l w b a v s h = some (okS l s && (decide (tot s ≤ l) && farZ (a / (w / b)) s)) := by
    simp only [ring_May.j0, Bool.false_eq_true, if_false]
    have hmn : mn (s.length : Int) (a / (w / b) + 1) = ((min s.length (a / (w / b) + 1).toNat : Nat) : Int) := by unfold mn; split <;> omega
    rw [sum_f (by omega) s hs l q.2.1, Option.bind_some, number_f hp ha.1 (by omega), Option.bind_some, wr (x := a / (w / b) + 1) (by omega) (by omega), hmn, if_pos (by omega), if_pos (by omega), Int.toNat_natCast, sum_f (by omega) _ (by rw [List.length_take]; omega) l q.2.1, Option.bind_some]
    cases ho : okS l s
    · simp
    · have hok := okS_is.1 ho
      have e1 : okS l (s.take (min s.length (a / (w / b) + 1).toNat)) = true := okS_is.2 (fun x hx => hok x (List.mem_of_mem_take hx))
      rw [e1]
      simp only [if_true]
      by_cases hle : tot s ≤ l
      · rw [if_pos hle]
        simp only [hle, decide_true, Bool.true_and]
        congr 1
        have hsp := tot_append (s.take (min s.length (a / (w / b) + 1).toNat)) (s.drop (min s.length (a / (w / b) + 1).toNat))
        rw [List.take_append_drop] at hsp
        have hdr : s.drop (min s.length (a / (w / b) + 1).toNat) = s.drop (a / (w / b) + 1).toNat := by
          by_cases hc : (a / (w / b) + 1).toNat ≤ s.length
          · rw [Nat.min_eq_right hc]
          · rw [Nat.min_eq_left (by omega), List.drop_eq_nil_of_le (Nat.le_refl _), List.drop_eq_nil_of_le (by omega)]
        rw [hdr] at hsp
        have hz := tot_zero (s := s.drop (a / (w / b) + 1).toNat) (fun x hx => (hok x (List.mem_of_mem_drop hx)).1)
        rw [Bool.eq_iff_iff, beq_iff_eq]
        unfold farZ
        rw [List.all_eq_true]
        constructor
        · intro e x hx; exact decide_eq_true (hz.1 (by omega) x hx)
        · intro e; have := hz.2 (fun x hx => of_decide_eq_true (e x hx)); omega
      · rw [if_neg hle]; simp [hle]
  by_cases h5 : s.length = 0
  · simp only [h3, h4, h5] at J ⊢
    simp [J]
  · by_cases h6 : (s.length : Int) = b
    · have e : ((s.length : Int) != b) = false := by simp [h6]
      have e5 : ¬ ((s.length : Int) = 0) := by omega
      simp only [h3] at J
      simp only [if_true, h3, h4, e, e5, if_false, J]
      simp [h6]
    · have e : ((s.length : Int) != b) = true := by simp [h6]
      have e5 : ¬ ((s.length : Int) = 0) := by omega
      simp only [if_true, h3, h4, e, e5, if_false, ring_May.j0]
      simp [h5, h6]
theorem may_is {k l w b a v : Int} {s : List Int} {h : List S54} (hm : mayF k l w b a v s h = true) : k = 3 ∧ polOk 3 l w b = true ∧ 0 ≤ a ∧ a ≤ 1099511627776 ∧ v = 0 ∧ h = [] ∧ (s = [] ∨ (s.length : Int) = b) ∧ (∀ x ∈ s, 0 ≤ x ∧ x ≤ l) ∧ tot s ≤ l ∧ (∀ x ∈ s.drop (a / (w / b) + 1).toNat, x = 0) := by
  unfold mayF timeF farZ at hm
  simp only [Bool.and_eq_true, Bool.or_eq_true, decide_eq_true_eq, List.all_eq_true] at hm
  obtain ⟨hp, hk, ha, hv, hh, hs, ho, hc, hz⟩ := hm
  subst hk
  exact ⟨rfl, hp, ha.1, ha.2, hv, List.length_eq_zero_iff.1 hh, hs.elim (fun e => Or.inl (List.length_eq_zero_iff.1 e)) Or.inr, okS_is.1 ho, hc, hz⟩
theorem far_rd {s : List Int} {A i : Int} (hz : ∀ x ∈ s.drop (A + 1).toNat, x = 0) (hA : 0 ≤ A) (hi : A < i) : rd s i = 0 := by
  unfold rd
  rw [List.getD_eq_getElem?_getD]
  by_cases h : i.toNat < s.length
  · rw [List.getElem?_eq_getElem h]
    refine hz _ ?_
    rw [List.mem_drop_iff_getElem]
    exact ⟨i.toNat - (A + 1).toNat, by omega, by congr 1; omega⟩
  · rw [List.getElem?_eq_none (by omega)]; rfl
/-- What is told of the sums of a cell that may be. -/
theorem may_in {l w b a v k : Int} {s : List Int} {h : List S54} (hm : mayF k l w b a v s h = true) : ∀ c, 0 ≤ inF s (a / (w / b)) b c ∧ inF s (a / (w / b)) b c ≤ l := by
  obtain ⟨hk, hp, a0, a1, hv, hh, hs, ho, hc, hz⟩ := may_is hm
  have q := pol_is hp
  intro c
  unfold inF
  split
  · omega
  · rename_i hne
    have m0 := Int.emod_nonneg c (show b ≠ 0 by omega)
    have m1 := Int.emod_lt_of_pos c (show 0 < b by omega)
    exact ho _ (rd_mem m0 (by rcases hs with e | e; exact absurd (Or.inr (Or.inr e)) hne; omega))
/-- A cell that may be, of sums. -/
theorem may_ok {l w b a v k : Int} {s : List Int} {h : List S54} (hm : mayF k l w b a v s h = true) (hs : s ≠ []) : OkS s (a / (w / b)) b l := by
  obtain ⟨hk, hp, a0, a1, hv, hh, hs', ho, hc, hz⟩ := may_is hm
  have q := pol_is hp
  have nb := num_bd a0 q.2.2.2.2.2.2.2.1
  have hl := hs'.resolve_left hs
  exact ⟨hl, fun i h0 h1 => ho _ (rd_mem h0 (by omega)), fun i h0 h1 => far_rd hz nb.1 h0⟩
theorem rd_zeroL : ∀ (is : List Int) (s : List Int), (∀ i ∈ is, 0 ≤ i ∧ i < (s.length : Int)) → ∀ j, 0 ≤ j → rd (zeroL s is) j = if j ∈ is then 0 else rd s j := by
  intro is
  induction is with
  | nil => intro s _ j _; simp [zeroL]
  | cons i t ih =>
    intro s h j hj
    have hi := h i (by simp)
    show rd (zeroL (s.set i.toNat 0) t) j = _
    rw [ih _ (fun x hx => by rw [List.length_set]; exact h x (by simp [hx])) j hj]
    rw [rd_set hi.1 hi.2 hj]
    by_cases h1 : j ∈ t
    · rw [if_pos h1, if_pos (by simp [h1])]
    · rw [if_neg h1]
      by_cases h2 : j = i
      · rw [if_pos h2, if_pos (by simp [h2])]
      · rw [if_neg h2, if_neg (by simp [h1, h2])]
theorem zeroL_len (is : List Int) : ∀ (s : List Int), (zeroL s is).length = s.length := by
  induction is with
  | nil => intro s; rfl
  | cons i t ih => intro s; show (zeroL (s.set i.toNat 0) t).length = _; rw [ih, List.length_set]
theorem goneL_mem {B f last : Int} {x : Int} : x ∈ goneL B f last ↔ ∃ i : Nat, i < goneN B f last ∧ (f + (i : Int)) % B = x := by
  unfold goneL upG; simp
theorem base_rd {B : Int} {s : List Int} (i : Int) : rd (baseL B s) i = rd s i ∨ s = [] := by
  unfold baseL
  by_cases h : s.length = 0
  · right; exact List.length_eq_zero_iff.1 h
  · left; rw [if_neg h]
theorem rd_rep (n : Nat) (i : Int) : rd (List.replicate n (0 : Int)) i = 0 := by
  unfold rd
  rw [List.getD_eq_getElem?_getD, List.getElem?_replicate]
  split <;> rfl
theorem at_z {k l w b a v t : Int} {s : List Int} {h : List S54} (hm : mayF k l w b a v s h = true) (ht : a ≤ t) : zeroL (baseL b s) (goneL b (a / (w / b) + 1) (t / (w / b))) = atL s (a / (w / b)) b (t / (w / b)) := by
  obtain ⟨hk, hp, a0, a1, hv, hh, hs, ho, hc, hz⟩ := may_is hm
  have q := pol_is hp
  have nb := num_bd a0 q.2.2.2.2.2.2.2.1
  have hmono : a / (w / b) ≤ t / (w / b) := Int.ediv_le_ediv (by omega) ht
  have hbl : ((baseL b s).length : Int) = b := by
    unfold baseL
    split
    · rw [List.length_replicate]; omega
    · rename_i hne; rcases hs with e | e; rw [e] at hne; simp at hne; exact e
  generalize a / (w / b) = A at *
  generalize t / (w / b) = T at *
  refine atL_eq (by omega) (by rw [zeroL_len]; exact hbl) (fun c c0 c1 => ?_)
  have m0 := Int.emod_nonneg c (show b ≠ 0 by omega)
  have m1 := Int.emod_lt_of_pos c (show 0 < b by omega)
  rw [rd_zeroL _ _ (fun i hi => by
    obtain ⟨j, _, rfl⟩ := goneL_mem.1 hi
    rw [hbl]
    exact ⟨Int.emod_nonneg _ (by omega), Int.emod_lt_of_pos _ (by omega)⟩) _ m0]
  by_cases hcA : A < c
  · have e0 := Int.emod_nonneg (c - A - 1) (show b ≠ 0 by omega)
    have e1 := Int.emod_lt_of_pos (c - A - 1) (show 0 < b by omega)
    have e3 : (c - A - 1) % b ≤ c - A - 1 := by
      have g1 := Int.emod_add_mul_ediv (c - A - 1) b
      have g2 : 0 ≤ b * ((c - A - 1) / b) := Int.mul_nonneg (by omega) (Int.ediv_nonneg (by omega) (by omega))
      omega
    rw [if_pos (goneL_mem.2 ⟨((c - A - 1) % b).toNat, ?_, ?_⟩)]
    · unfold inF; rw [if_pos (Or.inr (Or.inl hcA))]
    · unfold goneN; omega
    · rw [Int.toNat_of_nonneg e0, Int.add_emod_emod, show A + 1 + (c - A - 1) = c by omega]
  · rw [if_neg (fun hx => by
      obtain ⟨j, hj, e⟩ := goneL_mem.1 hx
      unfold goneN at hj
      have := mod_inj (B := b) (b := c) (c := A + 1 + (j : Int)) (by omega) e.symm (by omega) (by omega)
      omega)]
    by_cases hs0 : s = []
    · have : baseL b s = List.replicate b.toNat 0 := by unfold baseL; rw [if_pos (by simp [hs0])]
      rw [this, rd_rep]; unfold inF; rw [if_pos (Or.inr (Or.inr hs0))]
    · rw [(base_rd _).resolve_right hs0]
      have hl := hs.resolve_left hs0
      have hOk : OkS s A b l := ⟨hl, fun i h0 h1 => ho _ (rd_mem h0 (by omega)), fun i h0 h1 => far_rd hz nb.1 h0⟩
      rw [hOk.at (by omega) nb.1 (by omega) (by omega)]
theorem at_f {k l w b a v t : Int} {s : List Int} {h : List S54} (hm : mayF k l w b a v s h = true) (ht : a ≤ t) (ht1 : t ≤ 4398046511104) : ring_at.f 3 l w b a v s h t = some (t, 0, atL s (a / (w / b)) b (t / (w / b)), []) := by
  obtain ⟨hk, hp, a0, a1, hv, hh, hs, ho, hc, hz⟩ := may_is hm
  have q := pol_is hp
  have nb := num_bd a0 q.2.2.2.2.2.2.2.1
  have nt := num_bd (t := t) (by omega) q.2.2.2.2.2.2.2.1
  unfold ring_at.f
  rw [number_f hp a0 (by omega), Option.bind_some, number_f hp (by omega) (by omega), Option.bind_some, if_pos ⟨q.2.2.2.2.1, q.2.2.2.2.2.1, hs.imp (fun e => by rw [e]; rfl) id, by omega, by omega, by omega, by omega⟩, at_z hm ht]
theorem ok_mem {d : List Int} {T B l : Int} (h : OkS d T B l) : ∀ x ∈ d, 0 ≤ x ∧ x ≤ l := by
  intro x hx
  obtain ⟨i, hi, rfl⟩ := mem_rd hx
  exact h.low _ (by omega) (by have := h.len; omega)
theorem total_0 {n : Nat} (hn : 2100 ≤ n) {d : List Int} {T B l : Int} (h : OkS d T B l) (hB : B ≤ 16) (hl : l ≤ 1048576) (x y : Int) (z : List S54) : ring_total.f n x y d z = some (tot d) := by
  have hlen := h.len
  unfold ring_total.f
  rw [sum_f hn d (by omega) _ (by omega), if_pos (okS_is.2 (fun z hz => by have := ok_mem h z hz; omega))]
  rfl
theorem upG_succ (B f : Int) (n : Nat) : upG B f (n + 1) = f % B :: upG B (f + 1) n := by
  unfold upG
  rw [List.range_succ_eq_map, List.map_cons, List.map_map]
  simp only [show f + ((0 : Nat) : Int) = f by omega]
  congr 1
  apply List.map_congr_left
  intro i _
  show (f + ((i + 1 : Nat) : Int)) % B = _
  rw [show f + ((i + 1 : Nat) : Int) = f + 1 + (i : Int) by omega]
theorem waitG_k {s : List Int} {B Sl at_ most : Int} {F : Int → Int} (hm : 0 ≤ most) (hS : 0 ≤ Sl) (hS1 : Sl ≤ 1048576) (ha : 0 ≤ at_) (ha1 : at_ ≤ 4398046511104) : ∀ (m : Nat) (b x : Int), m ≤ 16 → (∀ c, b ≤ c → c < b + (m : Int) → rd s (c % B) = F c ∧ 0 ≤ F c ∧ F c ≤ 1048576) → 0 ≤ x → x ≤ 8796093022208 - 1048576 * (m : Int) →
    waitG s most Sl at_ (upG B (b + B) m) (sm F b m) x = if sm F b m ≤ most then 0 else x + (kF F most b m - b - 1) * Sl - at_ := by
  intro m
  induction m with
  | zero => intro b x _ _ _ _; rw [show sm F b 0 = 0 from rfl, if_pos hm]; rfl
  | succ m ih =>
    intro b x hm16 hF x0 x1
    have hb := hF b (by omega) (by omega)
    have hbd := sm_bd (F := F) (M := 1048576) (n := m + 1) (a := b) (fun c h0 h1 => (hF c h0 h1).2)
    have hbd2 := sm_bd (F := F) (M := 1048576) (n := m) (a := b + 1) (fun c h0 h1 => (hF c (by omega) (by omega)).2)
    have hs : sm F b (m + 1) = F b + sm F (b + 1) m := rfl
    rw [upG_succ]
    simp only [waitG, kF]
    by_cases h1 : sm F b (m + 1) ≤ most
    · rw [if_pos h1, if_pos h1]
    rw [if_neg h1, if_neg h1, if_neg h1]
    rw [show (b + B) % B = b % B from Int.add_emod_right ..]
    rw [hb.1, show sm F b (m + 1) - F b = sm F (b + 1) m by omega, wr (x := sm F (b + 1) m) (by omega) (by omega)]
    by_cases h2 : sm F (b + 1) m ≤ most
    · rw [if_pos h2, wr (x := x - at_) (by omega) (by omega)]
      have : kF F most (b + 1) m = b + 1 := by
        cases m with
        | zero => rfl
        | succ m => simp only [kF]; rw [if_pos h2]
      rw [this, show b + 1 - b - 1 = 0 by omega, Int.zero_mul]; omega
    · rw [if_neg h2, wr (x := x + Sl) (by omega) (by omega), show b + B + 1 = b + 1 + B by omega, ih (b + 1) (x + Sl) (by omega) (fun c h0 h1 => hF c (by omega) (by omega)) (by omega) (by omega), if_neg h2]
      have e : (kF F most (b + 1) m - b - 1) * Sl = (kF F most (b + 1) m - (b + 1) - 1) * Sl + Sl := by
        rw [show kF F most (b + 1) m - b - 1 = (kF F most (b + 1) m - (b + 1) - 1) + 1 by omega, Int.add_mul, Int.one_mul]
      omega
theorem num_add {u w b : Int} (hb : b * (w / b) = w) (hs : 1 ≤ w / b) : (u + w) / (w / b) = u / (w / b) + b := by
  have : u + w = u + b * (w / b) := by omega
  rw [this, Int.add_mul_ediv_right _ _ (by omega)]
theorem num_mul {u sl : Int} (hs : 1 ≤ sl) : u / sl * sl ≤ u ∧ u < (u / sl + 1) * sl := by
  have h1 := Int.emod_add_mul_ediv u sl
  have h2 := Int.emod_nonneg u (show sl ≠ 0 by omega)
  have h3 := Int.emod_lt_of_pos u (show 0 < sl by omega)
  rw [Int.add_mul, Int.one_mul, Int.mul_comm (u / sl) sl]
  omega
theorem wait_0 {n : Nat} (hn : 2100 ≤ n) {l w b u most : Int} {d : List Int} (hp : polOk 3 l w b = true) (h0 : 0 ≤ u) (h1 : u ≤ 2199023255552) (h : OkS d (u / (w / b)) b l) (hm : 0 ≤ most) (z : List S54) : ring_wait.f n 3 l w b u 0 d z most = some (waitF d (u / (w / b)) b (w / b) u most) := by
  have q := pol_is hp
  have nb := num_bd h0 q.2.2.2.2.2.2.2.1
  have hlen := h.len
  have hmul := num_mul (u := u) (sl := w / b) q.2.2.2.2.2.2.2.1
  have hsw : w / b ≤ w := Int.ediv_le_self _ (by omega)
  unfold ring_wait.f
  rw [total_0 hn h (by omega) (by omega), Option.bind_some, number_f hp h0 (by omega), Option.bind_some]
  unfold policy_Slot.f slotV slices_Clone_int_int.f
  rw [if_pos hp, if_pos rfl, q.2.2.2.2.2.2.2.2, Option.bind_some]
  simp only [Option.bind_some, List.length_nil, List.nil_append]
  rw [if_pos (by omega), Option.bind_some, wr (x := u + w) (by omega) (by omega), number_f hp (by omega) (by omega), Option.bind_some, num_add q.2.2.2.2.2.2.1 q.2.2.2.2.2.2.2.1, if_pos ⟨by omega, by omega, hlen, by omega, by omega, by omega, by omega⟩]
  have hT := h.tot (by omega) nb.1
  have hg : goneL b (u / (w / b) + 1) (u / (w / b) + b) = upG b ((u / (w / b) - b + 1) + b) b.toNat := by
    unfold goneL goneN
    rw [show (min (u / (w / b) + b - (u / (w / b) + 1) + 1) b).toNat = b.toNat by omega, show u / (w / b) - b + 1 + b = u / (w / b) + 1 by omega]
  have hx : (u / (w / b) + 1) * (w / b) = u / (w / b) * (w / b) + w / b := by rw [Int.add_mul, Int.one_mul]
  have hx0 : 0 ≤ u / (w / b) * (w / b) := Int.mul_nonneg nb.1 (by omega)
  rw [wr (x := (u / (w / b) + 1) * (w / b)) (by omega) (by omega), hg, hT]
  have hF := h.inb (by omega) (by omega)
  rw [waitG_k (F := inF d (u / (w / b)) b) hm (by omega) (by omega) h0 (by omega) b.toNat (u / (w / b) - b + 1) ((u / (w / b) + 1) * (w / b)) (by omega) (fun c c0 c1 => ⟨(h.at (by omega) nb.1 (by omega) (by omega)).symm, (hF c).1, by have := (hF c).2; omega⟩) (by omega) (by omega)]
  unfold waitF
  congr 1
  split
  · rfl
  · congr 1
    rw [← Int.add_mul]
    congr 1
    omega
end Go.Proofs.Ytalcmlgkdkbbaaa.La


namespace Go.Proofs.Ytalcmlgkdkbbaaa.La
open Go.RowKit Go.Proofs.YtalcmlgkdkbbaaaW.PrintWords Go.Proofs.YtalcmlgkdkbbaaaW.PrintLast Go.Proofs.YtalcmlgkdkbbaaaW.PrintMore Go.Proofs.Ytalcmlgkdkbbaaa.Q
set_option linter.unusedSimpArgs false
set_option linter.unusedVariables false
/-- The sums at a later time. -/
def dF (w b a : Int) (s : List Int) (u : Int) : List Int := atL s (a / (w / b)) b (u / (w / b))
def askR (l w b u : Int) (d : List Int) (x : Int) : Int × Int × List Int × List S54 × Bool × Int × Int × Int :=
  let T := u / (w / b)
  if tot d + x ≤ l then (u, 0, addW d T b x, [], true, l - tot (addW d T b x), 0, waitF (addW d T b x) T b (w / b) u 0)
  else (u, 0, d, [], false, l - tot d, if x > l then 2199023255552 else waitF d T b (w / b) u (l - x), waitF d T b (w / b) u 0)
def askF (l w b a : Int) (s : List Int) (t x : Int) : Int × Int × List Int × List S54 × Bool × Int × Int × Int := askR l w b (mx t a) (dF w b a s (mx t a)) x
def askV (k l w b a v : Int) (s : List Int) (h : List S54) (t x : Int) : Int × Int × List Int × List S54 × Bool × Int × Int × Int :=
  if mayF k l w b a v s h && timeF t && weighF x then askF l w b a s t x else (a, v, s, h, false, 0, 0, 0)
theorem d_ok {k l w b a v : Int} {s : List Int} {h : List S54} (hm : mayF k l w b a v s h = true) (u : Int) : OkS (dF w b a s u) (u / (w / b)) b l := by
  have q := pol_is (may_is hm).2.1
  exact atL_ok (by omega) (by omega) (may_in hm)
theorem add_le {d : List Int} {T B l x : Int} (h : OkS d T B l) (hB : 1 ≤ B) (hT : 0 ≤ T) (hl : 0 ≤ l) (hc : tot d + x ≤ l) : rd d (T % B) + x ≤ l := by
  have m0 := Int.emod_nonneg T (show B ≠ 0 by omega)
  have m1 := Int.emod_lt_of_pos T (show 0 < B by omega)
  have e := h.tot hB hT
  have := sm_le (F := inF d T B) (n := B.toNat) (a := T - B + 1) (b := T) (fun c _ _ => (h.inb hB hl c).1) (by omega) (by omega)
  rw [h.at hB hT (by omega) (by omega)] at this
  omega
theorem d_add {d : List Int} {T B l x : Int} (h : OkS d T B l) (hB : 1 ≤ B) (hT : 0 ≤ T) (hl : 0 ≤ l) (hx : 0 ≤ x) (hc : tot d + x ≤ l) : OkS (addW d T B x) T B l := addW_ok h hB hT hx (add_le h hB hT hl hc)
theorem ask_f {n : Nat} (hn : 2300 ≤ n) (k l w b a v : Int) (s : List Int) (h : List S54) (t x : Int) (hs : s.length ≤ 1000) : ring_Ask.f n k l w b a v s h t x = some (askV k l w b a v s h t x) := by
  obtain ⟨n, rfl⟩ : ∃ m, n = m + 2 := ⟨n - 2, by omega⟩
  have T : ring_Ask.j0 (n + 2) t x true k l w b a v s h = some (a, v, s, h, false, 0, 0, 0) := by simp [ring_Ask.j0]
  unfold ring_Ask.f askV
  rw [may_f (by omega) _ _ _ _ _ _ _ _ hs, Option.bind_some, time_f, weigh_f]
  cases hm : mayF k l w b a v s h
  · simp [T]
  cases ht : timeF t
  · simp [T]
  cases hx : weighF x
  · simp [T]
  obtain ⟨hk, hp, a0, a1, hv, hh, hs', ho, hc, hz⟩ := may_is hm
  subst hk
  have q := pol_is hp
  have tt := time_is.1 ht
  have xx := weigh_is.1 hx
  have mm := mx_le t a
  simp only [if_true, Option.bind_some, Bool.not_true, Bool.and_self, ring_Ask.j0, Bool.false_eq_true, if_false]
  unfold askF
  generalize hu : mx t a = u at *
  have nb := num_bd (t := u) (sl := w / b) (by omega) q.2.2.2.2.2.2.2.1
  rw [at_f hm (by omega) (by omega), Option.bind_some]
  have hd := d_ok hm u
  rw [show atL s (a / (w / b)) b (u / (w / b)) = dF w b a s u from rfl]
  generalize dF w b a s u = d at *
  try dsimp only
  have td := total_0 (n := n + 1) (by omega) hd (by omega) (by omega) u 0 ([] : List S54)
  have tb := tot_bd (ok_mem hd)
  have tlen := hd.len
  have tb2 : l * (d.length : Int) ≤ 16777216 := by rw [tlen]; exact Int.le_trans (Int.mul_le_mul_of_nonneg_right q.2.1 (by omega)) (by omega)
  have J : ∀ (e : List Int) (b1 : Bool) (i1 i2 i3 : Int), OkS e (u / (w / b)) b l → tot e ≤ 16777216 → ring_Ask.j1 (n + 1) 3 l w b u 0 e [] b1 i1 i2 i3 = some (u, 0, e, [], b1, l - tot e, i2, waitF e (u / (w / b)) b (w / b) u 0) := by
    intro e b1 i1 i2 i3 he hte
    have te := tot_bd (ok_mem he)
    simp only [ring_Ask.j1]
    rw [total_0 (by omega) he (by omega) (by omega), Option.bind_some, wait_0 (by omega) hp (by omega) (by omega) he (by omega), Option.bind_some, wr (x := l - tot e) (by omega) (by omega)]
  rw [td, Option.bind_some, wr (x := tot d + x) (by omega) (by omega)]
  unfold askR
  dsimp only
  by_cases hle : tot d + x ≤ l
  · have m0 := Int.emod_nonneg (u / (w / b)) (show b ≠ 0 by omega)
    have m1 := Int.emod_lt_of_pos (u / (w / b)) (show 0 < b by omega)
    have hr := add_le hd (by omega) nb.1 (by omega) hle
    have hr0 := hd.low _ m0 m1
    have hA := d_add hd (by omega) nb.1 (by omega) (by omega) hle
    have tA := tot_bd (ok_mem hA)
    have tA2 : l * ((addW d (u / (w / b)) b x).length : Int) ≤ 16777216 := by rw [hA.len]; exact Int.le_trans (Int.mul_le_mul_of_nonneg_right q.2.1 (by omega)) (by omega)
    rw [if_pos hle, if_pos hle, number_f hp (by omega) (by omega), Option.bind_some, if_neg (by omega), Int.tmod_eq_emod_of_nonneg nb.1, if_pos m0, if_pos (by omega), wr (x := rd d (u / (w / b) % b) + x) (by omega) (by omega)]
    exact J (addW d (u / (w / b)) b x) _ _ _ _ hA (by omega)
  · rw [if_neg hle, if_neg hle]
    by_cases hxl : x > l
    · rw [if_pos hxl, if_pos hxl]
      exact J _ _ _ _ _ hd (by omega)
    · rw [if_neg hxl, if_neg hxl, wr (x := l - x) (by omega) (by omega), wait_0 (by omega) hp (by omega) (by omega) hd (by omega), Option.bind_some]
      exact J _ _ _ _ _ hd (by omega)
def totalF (k l w b a v : Int) (s : List Int) (h : List S54) (t : Int) : Int := if mayF k l w b a v s h && timeF t then tot (dF w b a s (mx t a)) else 0
theorem total_f {n : Nat} (hn : 2300 ≤ n) (k l w b a v : Int) (s : List Int) (h : List S54) (t : Int) (hs : s.length ≤ 1000) : ring_Total.f n k l w b a v s h t = some (totalF k l w b a v s h t) := by
  obtain ⟨n, rfl⟩ : ∃ m, n = m + 1 := ⟨n - 1, by omega⟩
  unfold ring_Total.f totalF
  rw [may_f (by omega) _ _ _ _ _ _ _ _ hs, Option.bind_some, time_f]
  cases hm : mayF k l w b a v s h
  · simp [ring_Total.j0]
  cases ht : timeF t
  · simp [ring_Total.j0]
  obtain ⟨hk, hp, a0, a1, hv, hh, hs', ho, hc, hz⟩ := may_is hm
  subst hk
  have q := pol_is hp
  have tt := time_is.1 ht
  have mm := mx_le t a
  simp only [if_true, Option.bind_some, Bool.not_true, Bool.and_self, ring_Total.j0, Bool.false_eq_true, if_false]
  rw [at_f hm (by omega) (by omega), Option.bind_some]
  have hd := d_ok hm (mx t a)
  show (ring_total.f n (mx t a) 0 (dF w b a s (mx t a)) []).bind _ = _
  rw [total_0 (by omega) hd (by omega) (by omega), Option.bind_some]
def endsF (k l w b a v : Int) (s : List Int) (h : List S54) : Int := if mayF k l w b a v s h then a + waitF (dF w b a s a) (a / (w / b)) b (w / b) a 0 else 0
theorem waitF_bd {d : List Int} {T B Sl a most : Int} (hB : 1 ≤ B) (hS : 1 ≤ Sl) (h0 : T * Sl ≤ a) (h1 : a < (T + 1) * Sl) : 0 ≤ waitF d T B Sl a most ∧ waitF d T B Sl a most ≤ B * Sl := by
  unfold waitF
  have hBS : 0 ≤ B * Sl := Int.mul_nonneg (by omega) (by omega)
  split
  · omega
  · rename_i hgt
    have k := kF_bd (inF d T B) most B.toNat (T - B + 1)
    obtain ⟨m, hm⟩ : ∃ m, B.toNat = m + 1 := ⟨B.toNat - 1, by omega⟩
    have k2 := kF_bd (inF d T B) most m (T - B + 1 + 1)
    have e : kF (inF d T B) most (T - B + 1) B.toNat = kF (inF d T B) most (T - B + 1 + 1) m := by
      rw [hm] at hgt ⊢; simp only [kF]; rw [if_neg hgt]
    rw [e]
    generalize kF (inF d T B) most (T - B + 1 + 1) m = K at *
    have f1 : (T + 1) * Sl ≤ (K + B - 1) * Sl := Int.mul_le_mul_of_nonneg_right (by omega) (by omega)
    have f2 : (K + B - 1) * Sl ≤ (T + B) * Sl := Int.mul_le_mul_of_nonneg_right (by omega) (by omega)
    rw [Int.add_mul] at f2
    omega
theorem ends_f {n : Nat} (hn : 2300 ≤ n) (k l w b a v : Int) (s : List Int) (h : List S54) (hs : s.length ≤ 1000) : ring_Ends.f n k l w b a v s h = some (endsF k l w b a v s h) := by
  unfold ring_Ends.f endsF
  rw [may_f (by omega) _ _ _ _ _ _ _ _ hs, Option.bind_some]
  cases hm : mayF k l w b a v s h
  · simp
  obtain ⟨hk, hp, a0, a1, hv, hh, hs', ho, hc, hz⟩ := may_is hm
  subst hk
  have q := pol_is hp
  have hd := d_ok hm a
  have hmul := num_mul (u := a) (sl := w / b) q.2.2.2.2.2.2.2.1
  have wb := waitF_bd (d := dF w b a s a) (T := a / (w / b)) (B := b) (Sl := w / b) (a := a) (most := 0) (by omega) (by omega) hmul.1 hmul.2
  simp only [if_true]
  rw [at_f hm (by omega) (by omega), Option.bind_some]
  show (ring_wait.f n 3 l w b a 0 (dF w b a s a) [] 0).bind _ = _
  rw [wait_0 (by omega) hp (by omega) (by omega) hd (by omega), Option.bind_some, wr (by omega) (by omega)]
theorem live_ok : sandglasslaw12_live.f 40 = some true := by decide +kernel
theorem live_up (n : Nat) : sandglasslaw12_live.f (40 + n) = some true := by
  induction n with
  | zero => exact live_ok
  | succ n ih => exact sandglasslaw12_live.mono (40 + n) _ ih
theorem live_at {n : Nat} (h : 40 ≤ n) : sandglasslaw12_live.f n = some true := by
  obtain ⟨m, rfl⟩ : ∃ m, n = 40 + m := ⟨n - 40, by omega⟩
  exact live_up m
end Go.Proofs.Ytalcmlgkdkbbaaa.La


namespace Go.Proofs.Ytalcmlgkdkbbaaa.La
open Go.RowKit Go.Proofs.YtalcmlgkdkbbaaaW.PrintWords Go.Proofs.YtalcmlgkdkbbaaaW.PrintLast Go.Proofs.YtalcmlgkdkbbaaaW.PrintMore Go.Proofs.Ytalcmlgkdkbbaaa.Q
set_option linter.unusedSimpArgs false
set_option linter.unusedVariables false
theorem refCheck (k : Nat) (a b c d : Int) : sandglassref09_Check.f (k + 3) a b c d = some (if polOk a b c d = true then 0 else 1) := by
  unfold sandglassref09_Check.f polOk withinB
  by_cases h1 : a < 1
  · rw [if_pos h1]; simp [sandglassref09_Check.j0, show ¬ 1 ≤ a by omega]
  rw [if_neg h1]
  by_cases h2 : a > 4
  · rw [if_pos h2]; simp [sandglassref09_Check.j0, show ¬ a ≤ 4 by omega]
  rw [if_neg h2]
  by_cases h3 : b < 1
  · rw [if_pos h3]; simp [sandglassref09_Check.j0, show ¬ 1 ≤ b by omega]
  rw [if_neg h3]
  by_cases h4 : b > 1048576
  · rw [if_pos h4]; simp [sandglassref09_Check.j0, show ¬ b ≤ 1048576 by omega]
  rw [if_neg h4]
  by_cases h5 : c < 1
  · rw [if_pos h5]; simp [sandglassref09_Check.j0, show ¬ 1 ≤ c by omega]
  rw [if_neg h5]
  have e : ∀ (p : Int) (q : Int), (¬ p < q) → decide (q ≤ p) = true := fun p q h => by simp; omega
  have e' : ∀ (p : Int) (q : Int), (¬ p > q) → decide (p ≤ q) = true := fun p q h => by simp; omega
  by_cases h6 : c > 1048576
  · simp [sandglassref09_Check.j0, h6, show ¬ c ≤ 1048576 by omega]
  have h6' : decide (c > 1048576) = false := by simp; omega
  rw [h6', e _ _ h1, e' _ _ h2, e _ _ h3, e' _ _ h4, e _ _ h5, e' _ _ h6]
  simp only [sandglassref09_Check.j0, Bool.false_eq_true, if_false, Bool.and_self, Bool.true_and]
  by_cases h7 : a = 4
  · subst h7
    simp only [if_true, sandglassref09_Check.j1, show ¬ ((4 : Int) = 3) by omega, if_false, exactB]
    by_cases h8 : b > 16
    · simp [h8, show ¬ b ≤ 16 by omega]
    · by_cases h9 : d = 0 <;> simp [h8, h9, show b ≤ 16 by omega]
  · rw [if_neg h7]
    simp only [sandglassref09_Check.j1, Bool.false_eq_true, if_false]
    by_cases h8 : a = 3
    · rw [if_pos h8, if_pos h8]
      unfold ringB withinB
      by_cases h9 : d < 1
      · simp [h9, show ¬ 1 ≤ d by omega, sandglassref09_Check.j2]
      · by_cases h10 : d > 16
        · simp [h9, h10, show ¬ d ≤ 16 by omega, sandglassref09_Check.j2]
        · by_cases h11 : Int.tmod c d = 0 <;> simp [h9, h10, h11, show 1 ≤ d by omega, show d ≤ 16 by omega, show ¬ d = 0 by omega, sandglassref09_Check.j2]
    · rw [if_neg h8, if_neg h8, if_neg h7]
      by_cases h9 : d = 0 <;> simp [h9]
theorem time_r (t : Int) : sandglassref10_Time.f t = some (timeF t) := by
  unfold sandglassref10_Time.f timeF; by_cases h : t ≥ 0 <;> simp [h, show (0 ≤ t) = (t ≥ 0) from rfl]
theorem weigh_r (t : Int) : sandglassref09_Weighs.f t = some (weighF t) := by
  unfold sandglassref09_Weighs.f weighF; by_cases h : t ≥ 1 <;> simp [h, show (1 ≤ t) = (t ≥ 1) from rfl]
/-- A cell is the same as itself. -/
theorem same_l1 (n : Nat) (c1 c2 d1 d2 : Int) (s s' : List Int) (h : List S54) (d : Nat) : ∀ (i : Int), 0 ≤ i → (h.length : Int) - i ≤ d → h.length ≤ 100 → d < n → sandglassref10_Same.l1 n i c1 c2 s h d1 d2 s' h = some true := by
  induction n generalizing d with
  | zero => intro i _ _ _ hd; omega
  | succ n ih =>
    intro i h0 h1 h2 hd
    simp only [sandglassref10_Same.l1]
    by_cases h3 : i < (h.length : Int)
    · rw [if_pos h3, if_pos h0, if_pos h3]
      simp only [BEq.rfl, Bool.not_true, Bool.or_self, Bool.false_eq_true, if_false]
      rw [wr (by omega) (by omega)]
      exact ih (d - 1) (i + 1) (by omega) (by omega) h2 (by omega)
    · rw [if_neg h3]
theorem same_l0 (n : Nat) (c1 c2 d1 d2 : Int) (s : List Int) (h : List S54) (d : Nat) : ∀ (i : Int), 0 ≤ i → (s.length : Int) - i ≤ d → s.length ≤ 40 → h.length ≤ 100 → d + 102 < n → sandglassref10_Same.l0 n i c1 c2 s h d1 d2 s h = some true := by
  induction n generalizing d with
  | zero => intro i _ _ _ _ hd; omega
  | succ n ih =>
    intro i h0 h1 h2 h2' hd
    simp only [sandglassref10_Same.l0]
    by_cases h3 : i < (s.length : Int)
    · rw [if_pos h3, if_pos h0, if_pos h3, if_pos trivial, wr (by omega) (by omega)]
      exact ih (d - 1) (i + 1) (by omega) (by omega) h2 h2' (by omega)
    · rw [if_neg h3]
      exact same_l1 n c1 c2 d1 d2 s s h 100 0 (by omega) (by omega) h2' (by omega)
theorem same_refl (n : Nat) (a v : Int) (s : List Int) (h : List S54) (hs : s.length ≤ 40) (hh : h.length ≤ 100) : sandglassref10_Same.f (n + 200) a v s h a v s h = some true := by
  unfold sandglassref10_Same.f
  rw [if_pos rfl, if_pos rfl, if_pos rfl, show n + 200 = (n + 199) + 1 by omega]
  simp only [sandglassref10_Same.j0, bne_self_eq_false, Bool.false_eq_true, if_false]
  exact same_l0 _ _ _ _ _ _ _ 40 0 (by omega) (by omega) hs hh (by omega)
theorem few_f (a v : Int) (s : List Int) (h : List S54) : sandglassref10_Few.f a v s h = some (decide (s.length ≤ 40) && decide (h.length ≤ 40)) := by
  unfold sandglassref10_Few.f
  by_cases h1 : (s.length : Int) ≤ 40
  · have : s.length ≤ 40 := by omega
    rw [if_pos h1]; simp [this]; omega
  · have : ¬ s.length ≤ 40 := by omega
    rw [if_neg h1]; simp [this]
theorem same_refl' {n : Nat} (hn : 200 ≤ n) (a v : Int) (s : List Int) (h : List S54) (hs : s.length ≤ 40) (hh : h.length ≤ 100) : sandglassref10_Same.f n a v s h a v s h = some true := by
  obtain ⟨m, rfl⟩ : ∃ m, n = m + 200 := ⟨n - 200, by omega⟩
  exact same_refl _ _ _ _ _ hs hh
theorem number_r {l w b t : Int} (hp : polOk 3 l w b = true) (h0 : 0 ≤ t) (h1 : t ≤ 4611686018427387904) : sandglassref12_number.f 3 l w b t = some (t / (w / b)) := by
  have q := pol_is hp
  have nb := num_bd h0 q.2.2.2.2.2.2.2.1
  have hsw : w / b ≤ w := Int.ediv_le_self _ (by omega)
  unfold sandglassref12_number.f
  rw [if_neg (by omega), q.2.2.2.2.2.2.2.2, wr (x := w / b) (by omega) (by omega), if_neg (by omega), Int.tdiv_eq_ediv_of_nonneg h0, wr (by omega) (by omega)]
/-- No sum but zero behind a number, as the reference looks at it. -/
def farC (A : Int) : Int → List Int → Bool
  | _, [] => true
  | i, x :: t => (decide (x ≤ 0) || decide (i ≤ A)) && farC A (i + 1) t
theorem farC_is {A : Int} : ∀ {s : List Int} {i : Int}, farC A i s = true ↔ ∀ j : Nat, j < s.length → rd s (j : Int) ≤ 0 ∨ i + (j : Int) ≤ A := by
  intro s
  induction s with
  | nil => intro i; simp [farC]
  | cons x t ih =>
    intro i
    simp only [farC, Bool.and_eq_true, Bool.or_eq_true, decide_eq_true_eq, ih]
    constructor
    · intro h j hj
      cases j with
      | zero => have := h.1; simpa [rd] using this
      | succ j =>
        have := h.2 j (by simp at hj; omega)
        rw [show ((j + 1 : Nat) : Int) = (j : Int) + 1 by omega, rd_cons _ _ _ (by omega)]
        rcases this with e | e
        · exact Or.inl e
        · right; omega
    · intro h
      refine ⟨by have := h 0 (by simp); simpa [rd] using this, fun j hj => ?_⟩
      have := h (j + 1) (by simp; omega)
      rw [show ((j + 1 : Nat) : Int) = (j : Int) + 1 by omega, rd_cons _ _ _ (by omega)] at this
      rcases this with e | e
      · exact Or.inl e
      · right; omega
theorem farC_Z {A l : Int} {s : List Int} (hA : 0 ≤ A) (ho : okS l s = true) : farC A 0 s = farZ A s := by
  have hok := okS_is.1 ho
  rw [Bool.eq_iff_iff, farC_is]
  unfold farZ
  rw [List.all_eq_true]
  constructor
  · intro h x hx
    rw [List.mem_drop_iff_getElem] at hx
    obtain ⟨j, hj, rfl⟩ := hx
    have := h ((A + 1).toNat + j) (by omega)
    rw [rd_nat, List.getD_eq_getElem?_getD, List.getElem?_eq_getElem (by omega), Option.getD_some] at this
    have h2 := hok s[(A + 1).toNat + j] (List.getElem_mem _)
    exact decide_eq_true (by omega)
  · intro h j hj
    by_cases hc : 0 + (j : Int) ≤ A
    · exact Or.inr hc
    · left
      have := far_rd (s := s) (A := A) (i := (j : Int)) (fun x hx => of_decide_eq_true (h x hx)) hA (by omega)
      omega
theorem mayr_l0 {l w b a v : Int} (hp : polOk 3 l w b = true) (ha0 : 0 ≤ a) (ha1 : a ≤ 1099511627776) (s : List Int) (h : List S54) (hs : s.length ≤ 1000) (N : Nat) : ∀ (d i : Nat) (n : Int), s.length - i = d → i ≤ s.length → 2 * d < N → 0 ≤ n → n ≤ 1048576 * i → sandglassref12_May.l0 N n (i : Int) 3 l w b a v s h = some (okS l (s.drop i) && (farC (a / (w / b)) (i : Int) (s.drop i) && decide (n + tot (s.drop i) ≤ l))) := by
  have q := pol_is hp
  induction N using Nat.strongRecOn with
  | _ N ih =>
    intro d i n hd hi hN n0 n1
    obtain ⟨M, rfl⟩ : ∃ M, N = M + 1 := ⟨N - 1, by omega⟩
    simp only [sandglassref12_May.l0]
    by_cases hlt : (i : Int) < (s.length : Int)
    · obtain ⟨P, rfl⟩ : ∃ P, M = P + 1 := ⟨M - 1, by omega⟩
      rw [if_pos hlt, if_pos (by omega)]
      have F : sandglassref12_May.j2 (P + 1) n (i : Int) true 3 l w b a v s h = some false := by simp [sandglassref12_May.j2]
      have G : 0 ≤ rd s (i : Int) → rd s (i : Int) ≤ l → sandglassref12_May.j2 (P + 1) n (i : Int) false 3 l w b a v s h = some (okS l (s.drop (i + 1)) && (farC (a / (w / b)) ((i : Int) + 1) (s.drop (i + 1)) && decide (n + (rd s (i : Int) + tot (s.drop (i + 1))) ≤ l))) := by
        intro x0 x1
        simp only [sandglassref12_May.j2, Bool.false_eq_true, if_false]
        rw [if_pos (by omega), if_pos hlt, wr (x := n + _) (by omega) (by omega), wr (x := (i : Int) + 1) (by omega) (by omega), show (i : Int) + 1 = ((i + 1 : Nat) : Int) by omega, ih P (by omega) (d - 1) (i + 1) _ (by omega) (by omega) (by omega) (by omega) (by omega)]
        rw [Int.add_assoc]
      rw [rd_drop s i (by omega), okS_cons]
      simp only [farC, tot]
      generalize rd s (i : Int) = x at *
      by_cases c1 : x < 0
      · rw [if_pos c1, F]; simp [show ¬ 0 ≤ x by omega]
      rw [if_neg c1]
      by_cases c2 : x > l
      · rw [if_pos c2, F]; simp [show ¬ x ≤ l by omega]
      rw [if_neg c2]
      have G' := G (by omega) (by omega)
      by_cases c3 : x > 0
      · rw [if_pos c3, number_r hp ha0 (by omega), Option.bind_some]
        by_cases c4 : (i : Int) > a / (w / b)
        · rw [decide_eq_true c4, F]; simp [show ¬ x ≤ 0 by omega, show ¬ (i : Int) ≤ a / (w / b) by omega]
        · rw [decide_eq_false c4, G']; (simp [show 0 ≤ x by omega, show x ≤ l by omega, show (i : Int) ≤ a / (w / b) by omega]; rfl)
      · rw [if_neg c3, G']; (simp [show 0 ≤ x by omega, show x ≤ l by omega, show x ≤ 0 by omega]; rfl)
    · rw [if_neg hlt, List.drop_eq_nil_of_le (by omega)]; simp [okS, tot, farC]
theorem may_r {n : Nat} (hn : 2200 ≤ n) (k l w b a v : Int) (s : List Int) (h : List S54) (hs : s.length ≤ 1000) : sandglassref12_May.f n k l w b a v s h = some (mayF k l w b a v s h) := by
  obtain ⟨n, rfl⟩ : ∃ m, n = m + 3 := ⟨n - 3, by omega⟩
  unfold sandglassref12_May.f mayF
  rw [refCheck]
  simp only [Option.bind_some, time_r]
  cases hp : polOk k l w b
  · simp [sandglassref12_May.j0]
  by_cases h1 : k = 3
  rotate_left
  · simp [h1, sandglassref12_May.j0]
  subst h1
  have q := pol_is hp
  cases h2 : timeF a
  · simp [sandglassref12_May.j0]
  have ha := time_is.1 h2
  have nb := num_bd ha.1 q.2.2.2.2.2.2.2.1
  by_cases h3 : v = 0
  rotate_left
  · simp [h3, sandglassref12_May.j0]
  by_cases h4 : h.length = 0
  rotate_left
  · simp [h3, h4, sandglassref12_May.j0]
  have J : sandglassref12_May.j0 (n + 3) false 3 l w b a v s h = some (okS l s && (decide (tot s ≤ l) && farZ (a / (w / b)) s)) := by
    simp only [sandglassref12_May.j0, Bool.false_eq_true, if_false]
    have := mayr_l0 hp ha.1 ha.2 s h hs (v := v) (n + 2) s.length 0 0 (by omega) (by omega) (by omega) (by omega) (by omega)
    rw [show ((0 : Nat) : Int) = 0 from rfl, List.drop_zero, Int.zero_add] at this
    rw [this]
    cases ho : okS l s
    · rfl
    · rw [farC_Z nb.1 ho, Bool.and_comm (farZ _ _)]
  by_cases h5 : s.length = 0
  · simp only [h3, h4, h5] at J ⊢
    simp [J]
  · by_cases h6 : (s.length : Int) = b
    · have e : ((s.length : Int) != b) = false := by simp [h6]
      have e5 : ¬ ((s.length : Int) = 0) := by omega
      simp only [h3] at J
      simp only [if_true, h3, h4, e, e5, if_false, J]
      simp [h6]
    · have e : ((s.length : Int) != b) = true := by simp [h6]
      have e5 : ¬ ((s.length : Int) = 0) := by omega
      simp only [if_true, h3, h4, e, e5, if_false, sandglassref12_May.j0]
      simp [h5, h6]
end Go.Proofs.Ytalcmlgkdkbbaaa.La


namespace Go.Proofs.Ytalcmlgkdkbbaaa.La
open Go.RowKit Go.Proofs.YtalcmlgkdkbbaaaW.PrintWords Go.Proofs.YtalcmlgkdkbbaaaW.PrintLast Go.Proofs.YtalcmlgkdkbbaaaW.PrintMore Go.Proofs.Ytalcmlgkdkbbaaa.Q
set_option linter.unusedSimpArgs false
set_option linter.unusedVariables false
theorem ok_s {d : List Int} {T B l : Int} (h : OkS d T B l) : d = [] ∨ (d.length : Int) = B := Or.inr h.len
theorem tot_addW {d : List Int} {T B l x : Int} (h : OkS d T B l) (hB : 1 ≤ B) (hT : 0 ≤ T) (hl : 0 ≤ l) (hx : 0 ≤ x) (hc : tot d + x ≤ l) : tot (addW d T B x) = tot d + x := by
  have h2 := d_add h hB hT hl hx hc
  rw [h2.tot hB hT, h.tot hB hT]
  exact sm_up (t := T) (by omega) (by omega) (fun c c0 c1 => inF_addW h.len hB hT (by omega) (by omega))
theorem tot_dF {k l w b a v : Int} {s : List Int} {h : List S54} (hm : mayF k l w b a v s h = true) {u : Int} (hu : a ≤ u) : tot (dF w b a s u) = sm (inF s (a / (w / b)) b) (u / (w / b) - b + 1) b.toNat := by
  obtain ⟨hk, hp, a0, a1, hv, hh, hs', ho, hc, hz⟩ := may_is hm
  have q := pol_is hp
  have nb := num_bd (t := u) (sl := w / b) (by omega) q.2.2.2.2.2.2.2.1
  rw [(d_ok hm u).tot (by omega) nb.1]
  exact sm_congr (fun c c0 c1 => inF_atL (by omega) (by omega) (by omega))
theorem waitF_congr {d s : List Int} {T B Sl a most : Int} (hB : 1 ≤ B) (h : ∀ c, T - B < c → c ≤ T → inF d T B c = inF s T B c) : waitF d T B Sl a most = waitF s T B Sl a most := by
  unfold waitF
  rw [sm_congr (F := inF d T B) (G := inF s T B) (fun c c0 c1 => h c (by omega) (by omega)), kF_congr (F := inF d T B) (G := inF s T B) (fun c c0 c1 => h c (by omega) (by omega))]
theorem i64_is {v : Int} (h : (Lit.int .i64 v).wf = true) : -9223372036854775808 ≤ v ∧ v ≤ 9223372036854775807 := by
  simp [Lit.wf, IntKind.min, IntKind.max, IntKind.signed, IntKind.bits] at h
  omega
theorem ask_is {k l w b a v : Int} {s : List Int} {h : List S54} (hm : mayF k l w b a v s h = true) {t x : Int} (ht : timeF t = true) (hx : weighF x = true) : askV k l w b a v s h t x = askF l w b a s t x := by
  unfold askV; rw [hm, ht, hx]; rfl
theorem may_to {k l w b a v : Int} {s : List Int} {h : List S54} (hm : mayF k l w b a v s h = true) {u : Int} {d : List Int} (h0 : 0 ≤ u) (h1 : u ≤ 1099511627776) (h2 : OkS d (u / (w / b)) b l) (h3 : tot d ≤ l) : mayF k l w b u 0 d [] = true := by
  have hi := may_is hm
  have q := pol_is hi.2.1
  have nb := num_bd (t := u) (sl := w / b) h0 q.2.2.2.2.2.2.2.1
  unfold mayF timeF at hm ⊢
  simp only [Bool.and_eq_true, Bool.or_eq_true, decide_eq_true_eq] at hm ⊢
  refine ⟨hm.1, hm.2.1, ⟨h0, h1⟩, by simp, by simp, Or.inr h2.len, okS_is.2 (ok_mem h2), h3, ?_⟩
  unfold farZ
  rw [List.all_eq_true]
  intro x hx
  rw [List.mem_drop_iff_getElem] at hx
  obtain ⟨j, hj, rfl⟩ := hx
  have := h2.far (((u / (w / b) + 1).toNat + j : Nat) : Int) (by omega) (by have := h2.len; omega)
  rw [rd_nat, List.getD_eq_getElem?_getD, List.getElem?_eq_getElem (by omega), Option.getD_some] at this
  exact decide_eq_true this
theorem may_nil {k l w b a v : Int} {s : List Int} {h : List S54} (hm : mayF k l w b a v s h = true) {u : Int} (h0 : 0 ≤ u) (h1 : u ≤ 1099511627776) : mayF k l w b u 0 [] [] = true := by
  have hi := may_is hm
  have q := pol_is hi.2.1
  unfold mayF timeF farZ okS at hm ⊢
  simp only [Bool.and_eq_true, Bool.or_eq_true, decide_eq_true_eq] at hm ⊢
  refine ⟨hm.1, hm.2.1, ⟨h0, h1⟩, by simp, by simp, by simp, by simp, by simp [tot]; omega, by simp⟩
theorem sm_later {F : Int → Int} {A : Int} (h0 : ∀ c, 0 ≤ F c) (hA : ∀ c, A < c → F c = 0) {n : Nat} : ∀ (m : Nat) (a : Int), A < a + (n : Int) → sm F (a + (m : Int)) n ≤ sm F a n := by
  intro m
  induction m with
  | zero => intro a _; simp
  | succ m ih =>
    intro a ha
    have h1 := ih (a + 1) (by omega)
    rw [show a + 1 + (m : Int) = a + ((m + 1 : Nat) : Int) by omega] at h1
    have h2 := sm_snoc F n a
    have h3 : sm F a (n + 1) = F a + sm F (a + 1) n := rfl
    rw [hA _ ha] at h2
    have := h0 a
    omega
theorem tot_s {k l w b a v : Int} {s : List Int} {h : List S54} (hm : mayF k l w b a v s h = true) : tot s = sm (inF s (a / (w / b)) b) (a / (w / b) - b + 1) b.toNat := by
  obtain ⟨hk, hp, a0, a1, hv, hh, hs', ho, hc, hz⟩ := may_is hm
  have q := pol_is hp
  have nb := num_bd (t := a) (sl := w / b) (by omega) q.2.2.2.2.2.2.2.1
  by_cases hs : s = []
  · subst hs
    rw [sm_zero (fun c _ _ => by unfold inF; rw [if_pos (Or.inr (Or.inr rfl))])]
    rfl
  · exact (may_ok hm hs).tot (by omega) nb.1
theorem tot_le {k l w b a v : Int} {s : List Int} {h : List S54} (hm : mayF k l w b a v s h = true) {u : Int} (hu : a ≤ u) : tot (dF w b a s u) ≤ l := by
  obtain ⟨hk, hp, a0, a1, hv, hh, hs', ho, hc, hz⟩ := may_is hm
  have q := pol_is hp
  have hmono : a / (w / b) ≤ u / (w / b) := Int.ediv_le_ediv (by omega) hu
  rw [tot_dF hm hu]
  have h1 := sm_later (F := inF s (a / (w / b)) b) (A := a / (w / b)) (fun c => (may_in hm c).1) (fun c hc => by unfold inF; rw [if_pos (Or.inr (Or.inl hc))]) (n := b.toNat) (u / (w / b) - a / (w / b)).toNat (a / (w / b) - b + 1) (by omega)
  rw [show a / (w / b) - b + 1 + (((u / (w / b) - a / (w / b)).toNat : Nat) : Int) = u / (w / b) - b + 1 by omega, ← tot_s hm] at h1
  omega
/-- At its own time, and at a later one. -/
theorem dF_self {w b u l : Int} {d : List Int} (hd : OkS d (u / (w / b)) b l) (hb : 1 ≤ b) (hT : 0 ≤ u / (w / b)) : dF w b u d u = d := (atL_eq hb hd.len (fun c c0 c1 => (hd.at hb hT c0 c1).symm)).symm
theorem dF_dF {w b a u u' : Int} {s : List Int} (hb : 1 ≤ b) (h0 : a / (w / b) ≤ u / (w / b)) (h1 : u / (w / b) ≤ u' / (w / b)) : dF w b u (dF w b a s u) u' = dF w b a s u' := by
  refine atL_eq hb (atL_len _ _ _ _ hb) (fun c c0 c1 => ?_)
  unfold dF
  rw [rd_atL (Int.emod_nonneg _ (by omega)) (Int.emod_lt_of_pos _ (by omega)), num_at hb c0 c1]
  by_cases hc : c ≤ u / (w / b)
  · exact inF_atL hb (by omega) hc
  · unfold inF; rw [if_pos (Or.inr (Or.inl (by omega))), if_pos (Or.inr (Or.inl (by omega)))]
theorem addW_twice {d : List Int} {T B x y : Int} (hB : 1 ≤ B) (hl : (d.length : Int) = B) : addW (addW d T B x) T B y = addW d T B (x + y) := by
  have m0 := Int.emod_nonneg T (show B ≠ 0 by omega)
  have m1 := Int.emod_lt_of_pos T (show 0 < B by omega)
  unfold addW
  rw [rd_set m0 (by omega) m0, if_pos rfl, List.set_set, Int.add_assoc]
theorem askR_pos {l w b u x : Int} {d : List Int} (hc : tot d + x ≤ l) : askR l w b u d x = (u, 0, addW d (u / (w / b)) b x, [], true, l - tot (addW d (u / (w / b)) b x), 0, waitF (addW d (u / (w / b)) b x) (u / (w / b)) b (w / b) u 0) := by unfold askR; dsimp only; rw [if_pos hc]
theorem askR_neg {l w b u x : Int} {d : List Int} (hc : ¬ tot d + x ≤ l) : askR l w b u d x = (u, 0, d, [], false, l - tot d, if x > l then 2199023255552 else waitF d (u / (w / b)) b (w / b) u (l - x), waitF d (u / (w / b)) b (w / b) u 0) := by unfold askR; dsimp only; rw [if_neg hc]
/-- Behind what is told of the wait no more than so much counts. -/
theorem wait_ok {F : Int → Int} {most K c b : Int} {n : Nat} (h0 : ∀ c, 0 ≤ F c) (hm : 0 ≤ most) (hc : kF F most b n ≤ c) (hcn : c ≤ b + (n : Int)) : sm F c (b + (n : Int) - c).toNat ≤ most := by
  have h1 := kF_ok hm n b (F := F)
  have h2 := kF_bd F most n b
  have e := sm_add F (c - kF F most b n).toNat (b + (n : Int) - c).toNat (kF F most b n)
  rw [show (c - kF F most b n).toNat + (b + (n : Int) - c).toNat = (b + (n : Int) - kF F most b n).toNat by omega, show kF F most b n + (((c - kF F most b n).toNat : Nat) : Int) = c by omega] at e
  have h3 := sm_nn (F := F) (n := (c - kF F most b n).toNat) (a := kF F most b n) (fun c _ _ => h0 c)
  omega
/-- From the end on nothing counts. -/
theorem ends_zero {k l w b a v : Int} {s : List Int} {h : List S54} (hm : mayF k l w b a v s h = true) {t : Int} (ht : endsF k l w b a v s h ≤ t) (hat : a ≤ t) : ∀ c, t / (w / b) - b < c → inF s (a / (w / b)) b c = 0 := by
  obtain ⟨hk, hp, a0, a1, hv, hh, hs', ho, hc, hz⟩ := may_is hm
  have q := pol_is hp
  have hmono : a / (w / b) ≤ t / (w / b) := Int.ediv_le_ediv (by omega) hat
  intro c hcT
  by_cases hcA : a / (w / b) < c
  · unfold inF; rw [if_pos (Or.inr (Or.inl hcA))]
  have hF := may_in hm
  unfold endsF at ht
  rw [if_pos hm, show waitF (dF w b a s a) (a / (w / b)) b (w / b) a 0 = waitF s (a / (w / b)) b (w / b) a 0 from waitF_congr (by omega) (fun c c0 c1 => inF_atL (by omega) (by omega) (by omega))] at ht
  unfold waitF at ht
  split at ht
  · rename_i h0
    have := sm_le (F := inF s (a / (w / b)) b) (n := b.toNat) (a := a / (w / b) - b + 1) (b := c) (fun c _ _ => (hF c).1) (by omega) (by omega)
    have := (hF c).1
    omega
  · have hbd := kF_bd (inF s (a / (w / b)) b) 0 b.toNat (a / (w / b) - b + 1)
    have hok := fun hc1 hc2 => wait_ok (F := inF s (a / (w / b)) b) (K := 0) (most := 0) (c := c) (b := a / (w / b) - b + 1) (n := b.toNat) (fun c => (hF c).1) (by omega) hc1 hc2
    generalize kF (inF s (a / (w / b)) b) 0 (a / (w / b) - b + 1) b.toNat = K at *
    have hge : K + b - 1 ≤ t / (w / b) := (Int.le_ediv_iff_mul_le (by omega)).2 (by omega)
    have h1 := hok (by omega) (by omega)
    have h2 := sm_le (F := inF s (a / (w / b)) b) (n := (a / (w / b) - b + 1 + ((b.toNat : Nat) : Int) - c).toNat) (a := c) (b := c) (fun c _ _ => (hF c).1) (by omega) (by omega)
    have := (hF c).1
    omega
theorem ends_bd {k l w b a v : Int} {s : List Int} {h : List S54} (hm : mayF k l w b a v s h = true) : a ≤ endsF k l w b a v s h ∧ endsF k l w b a v s h ≤ a + w := by
  obtain ⟨hk, hp, a0, a1, hv, hh, hs', ho, hc, hz⟩ := may_is hm
  have q := pol_is hp
  have hmul := num_mul (u := a) (sl := w / b) q.2.2.2.2.2.2.2.1
  have wb := waitF_bd (d := dF w b a s a) (T := a / (w / b)) (B := b) (Sl := w / b) (a := a) (most := 0) (by omega) (by omega) hmul.1 hmul.2
  unfold endsF
  rw [if_pos hm]
  omega
end Go.Proofs.Ytalcmlgkdkbbaaa.La


namespace Go.Proofs.Ytalcmlgkdkbbaaa.ringRate
open Go.RowKit Go.Proofs.YtalcmlgkdkbbaaaW.PrintWords Go.Proofs.YtalcmlgkdkbbaaaW.PrintLast Go.Proofs.YtalcmlgkdkbbaaaW.PrintMore Go.Proofs.Ytalcmlgkdkbbaaa.Q
def Pure : Prop := ∀ (a0_0 : Int) (a0_1 : Int) (a0_2 : Int) (a0_3 : Int) (a1 : List S45), (Lit.int .i64 a0_0).wf = true → (Lit.int .i64 a0_1).wf = true → (Lit.int .i64 a0_2).wf = true → (Lit.int .i64 a0_3).wf = true → (a1.length ≤ maxLen ∧ ∀ x ∈ a1, ((Lit.int .i64 x.f0).wf = true ∧ (Lit.int .i64 x.f1).wf = true)) → ∃ k, sandglasslaw12_RingRate.f k a0_0 a0_1 a0_2 a0_3 a1 = some true
end Go.Proofs.Ytalcmlgkdkbbaaa.ringRate


namespace Go.Proofs.Ytalcmlgkdkbbaaa.ringRate
open Go.RowKit Go.Proofs.YtalcmlgkdkbbaaaW.PrintWords Go.Proofs.YtalcmlgkdkbbaaaW.PrintLast Go.Proofs.YtalcmlgkdkbbaaaW.PrintMore Go.Proofs.Ytalcmlgkdkbbaaa.Q Go.Proofs.Ytalcmlgkdkbbaaa.La
set_option linter.unusedSimpArgs false
set_option linter.unusedVariables false
/-- What was let in at the times of a kind. -/
def sg (P : Int → Bool) : List Int → List Int → Int
  | x :: xs, y :: ys => (if P x = true then y else 0) + sg P xs ys
  | _, _ => 0
theorem sg_snoc {P : Int → Bool} {x y : Int} : ∀ {xs ys : List Int}, xs.length = ys.length → sg P (xs ++ [x]) (ys ++ [y]) = sg P xs ys + if P x = true then y else 0 := by
  intro xs
  induction xs with
  | nil => intro ys h; cases ys with
    | nil => simp [sg]
    | cons z zs => simp at h
  | cons u us ih => intro ys h; cases ys with
    | nil => simp at h
    | cons z zs => simp only [List.cons_append, sg]; rw [ih (by simpa using h)]; omega
theorem sg_le {P Q : Int → Bool} : ∀ {xs ys : List Int}, (∀ x ∈ xs, P x = true → Q x = true) → (∀ y ∈ ys, 0 ≤ y) → sg P xs ys ≤ sg Q xs ys := by
  intro xs
  induction xs with
  | nil => intro ys _ _; simp [sg]
  | cons x xs ih =>
    intro ys h hy
    cases ys with
    | nil => simp [sg]
    | cons y ys =>
      simp only [sg]
      have h1 := h x (by simp)
      have h2 := hy y (by simp)
      have h3 := ih (ys := ys) (fun z hz => h z (by simp [hz])) (fun z hz => hy z (by simp [hz]))
      by_cases hp : P x = true
      · rw [if_pos hp, if_pos (h1 hp)]; omega
      · rw [if_neg hp]; split <;> omega
theorem sg_none {P : Int → Bool} : ∀ {xs ys : List Int}, (∀ x ∈ xs, P x = false) → sg P xs ys = 0 := by
  intro xs
  induction xs with
  | nil => intro ys _; simp [sg]
  | cons x xs ih =>
    intro ys h
    cases ys with
    | nil => simp [sg]
    | cons y ys =>
      simp only [sg]
      rw [if_neg (by rw [h x (by simp)]; simp), ih (fun z hz => h z (by simp [hz])), Int.add_zero]
theorem sm_add2 {F G : Int → Int} : ∀ {n : Nat} {a : Int}, sm (fun c => F c + G c) a n = sm F a n + sm G a n := by
  intro n
  induction n with
  | zero => intro a; rfl
  | succ n ih => intro a; simp only [sm]; rw [ih]; omega
theorem sm_one {x y : Int} : ∀ {n : Nat} {a : Int}, sm (fun c => if (decide (x = c)) = true then y else 0) a n = if (decide (a ≤ x) && decide (x < a + (n : Int))) = true then y else 0 := by
  intro n
  induction n with
  | zero => intro a; simp only [sm]; rw [if_neg (by first | (simp; done) | (simp; omega))]
  | succ n ih =>
    intro a
    simp only [sm]
    rw [ih]
    by_cases h1 : x = a
    · rw [if_pos (by simp [h1]), if_neg (by first | (simp; omega) | simp [h1]), if_pos (by first | (simp; omega) | simp [h1])]; omega
    · rw [if_neg (by simp [h1])]
      by_cases h2 : a + 1 ≤ x ∧ x < a + 1 + (n : Int)
      · rw [if_pos (by simp; omega), if_pos (by simp; omega)]; omega
      · rw [if_neg (by simp; omega), if_neg (by simp; omega)]; rfl
/-- All numbers of a row together. -/
theorem sm_sg {sl : Int} {n : Nat} {a : Int} : ∀ {xs ys : List Int}, sm (fun c => sg (fun x => decide (x / sl = c)) xs ys) a n = sg (fun x => decide (a ≤ x / sl) && decide (x / sl < a + (n : Int))) xs ys := by
  intro xs
  induction xs with
  | nil => intro ys; simp only [sg]; exact sm_zero (fun _ _ _ => rfl)
  | cons x xs ih =>
    intro ys
    cases ys with
    | nil => simp only [sg]; exact sm_zero (fun _ _ _ => rfl)
    | cons y ys =>
      simp only [sg]
      rw [sm_add2 (F := fun c => if (decide (x / sl = c)) = true then y else 0) (G := fun c => sg (fun x => decide (x / sl = c)) xs ys), sm_one, ih]
theorem rd_consI (l : List Int) (i : Nat) (h : i < l.length) : l.drop i = rd l (i : Int) :: l.drop (i + 1) := rd_drop l i h
/-- What counts short. -/
def Ps (t w sl b : Int) (x : Int) : Bool := decide (x > t - w + sl) || (decide (b = 1) && decide (x / sl = t / sl))
def Ql (t w : Int) (x : Int) : Bool := decide (x > t - w)
theorem inner {M : Nat} {L : List S45} {t k l w b a0 a1 sl : Int} {a2 : List Int} {a3 : List S54} {c1 : Bool} {c2 c3 c4 : Int} {ts ws : List Int} {i : Nat} (h0 : ts.length = i + 1) (h1 : ws.length = i + 1) (hi : i ≤ 40) (ht : 0 ≤ t ∧ t ≤ 1099511627776) (hw : 0 ≤ w ∧ w ≤ 1048576) (hsl : 1 ≤ sl ∧ sl ≤ 1048576) (hts : ∀ x ∈ ts, 0 ≤ x ∧ x ≤ 1099511627776) (hws : ∀ x ∈ ws, 0 ≤ x ∧ x ≤ 1048576) : ∀ (d j : Nat) (n m : Int), i + 1 - j = d → j ≤ i + 1 → 0 ≤ n → n ≤ 1048576 * j → 0 ≤ m → m ≤ 1048576 * j →
    sandglasslaw12_RingRate.l1 (M + 3 * d) L t sl ts ws (i : Int) n m (j : Int) k l w b a0 a1 a2 a3 c1 c2 c3 c4 = sandglasslaw12_RingRate.l1 M L t sl ts ws (i : Int) (n + sg (Ps t w sl b) (ts.drop j) (ws.drop j)) (m + sg (Ql t w) (ts.drop j) (ws.drop j)) ((i : Int) + 1) k l w b a0 a1 a2 a3 c1 c2 c3 c4 := by
  intro d
  induction d with
  | zero =>
    intro j n m hd hj n0 n1 m0 m1
    have : j = i + 1 := by omega
    subst this
    rw [List.drop_eq_nil_of_le (by omega)]
    simp [sg]
  | succ d ih =>
    intro j n m hd hj n0 n1 m0 m1
    rw [rd_consI ts j (by omega), rd_consI ws j (by omega)]
    have hb := hws _ (rd_mem (l := ws) (i := (j : Int)) (by omega) (by omega))
    have hx := hts _ (rd_mem (l := ts) (i := (j : Int)) (by omega) (by omega))
    have nx := num_bd (t := rd ts (j : Int)) (sl := sl) hx.1 hsl.1
    have nt := num_bd (t := t) (sl := sl) ht.1 hsl.1
    have J6 : ∀ n2, sandglasslaw12_RingRate.j6 (M + 3 * d + 1) L t sl ts ws (i : Int) n2 m (j : Int) k l w b a0 a1 a2 a3 c1 c2 c3 c4 = sandglasslaw12_RingRate.l1 (M + 3 * d) L t sl ts ws (i : Int) n2 (m + if Ql t w (rd ts (j : Int)) = true then rd ws (j : Int) else 0) ((j + 1 : Nat) : Int) k l w b a0 a1 a2 a3 c1 c2 c3 c4 := by
      intro n2
      rw [sandglasslaw12_RingRate.j6, if_pos (show 0 ≤ (j : Int) by omega), if_pos (show (j : Int) < (ts.length : Int) by omega), wr (x := t - w) (by omega) (by omega), wr (x := m + rd ws j) (by omega) (by omega), wr (x := (j : Int) + 1) (by omega) (by omega), show (j : Int) + 1 = ((j + 1 : Nat) : Int) by omega]
      unfold Ql
      by_cases hg : rd ts (j : Int) > t - w
      · rw [if_pos hg, if_pos (show (j : Int) < (ws.length : Int) by omega), if_pos (decide_eq_true hg)]
      · rw [if_neg hg, if_neg (by simpa using hg), Int.add_zero]
    have J5 : ∀ c, sandglasslaw12_RingRate.j5 (M + 3 * d + 2) L t sl ts ws (i : Int) n m (j : Int) c k l w b a0 a1 a2 a3 c1 c2 c3 c4 = sandglasslaw12_RingRate.l1 (M + 3 * d) L t sl ts ws (i : Int) (n + if c = true then rd ws (j : Int) else 0) (m + if Ql t w (rd ts (j : Int)) = true then rd ws (j : Int) else 0) ((j + 1 : Nat) : Int) k l w b a0 a1 a2 a3 c1 c2 c3 c4 := by
      intro c
      rw [sandglasslaw12_RingRate.j5]
      cases c
      · rw [if_neg (by simp), if_neg (by simp), J6, Int.add_zero]
      · rw [if_pos rfl, if_pos rfl, if_pos (show 0 ≤ (j : Int) by omega), if_pos (show (j : Int) < (ws.length : Int) by omega), J6, wr (x := n + rd ws j) (by omega) (by omega)]
    have fin : ∀ c, c = Ps t w sl b (rd ts (j : Int)) → sandglasslaw12_RingRate.j5 (M + 3 * d + 2) L t sl ts ws (i : Int) n m (j : Int) c k l w b a0 a1 a2 a3 c1 c2 c3 c4 = sandglasslaw12_RingRate.l1 M L t sl ts ws (i : Int) (n + sg (Ps t w sl b) (rd ts (j : Int) :: ts.drop (j + 1)) (rd ws (j : Int) :: ws.drop (j + 1))) (m + sg (Ql t w) (rd ts (j : Int) :: ts.drop (j + 1)) (rd ws (j : Int) :: ws.drop (j + 1))) ((i : Int) + 1) k l w b a0 a1 a2 a3 c1 c2 c3 c4 := by
      intro c hc
      subst hc
      rw [J5, ih (j + 1) _ _ (by omega) (by omega) (by split <;> omega) (by split <;> omega) (by split <;> omega) (by split <;> omega)]
      simp only [sg]
      rw [Int.add_assoc, Int.add_assoc]
    rw [show M + 3 * (d + 1) = (M + 3 * d + 2) + 1 by omega, sandglasslaw12_RingRate.l1, if_pos (show (j : Int) ≤ i by omega), if_pos (show 0 ≤ (j : Int) by omega), if_pos (show (j : Int) < (ts.length : Int) by omega), wr (x := t - w) (by omega) (by omega), wr (x := t - w + sl) (by omega) (by omega), Int.tdiv_eq_ediv_of_nonneg hx.1, Int.tdiv_eq_ediv_of_nonneg ht.1, wr (x := rd ts (j : Int) / sl) (by omega) (by omega), wr (x := t / sl) (by omega) (by omega)]
    by_cases hg : rd ts (j : Int) > t - w + sl
    · rw [if_pos hg]; exact fin true (by unfold Ps; simp [hg])
    · rw [if_neg hg]
      by_cases hb1 : b = 1
      · rw [if_pos hb1, if_neg (by omega)]
        refine fin _ ?_
        unfold Ps
        rw [decide_eq_false hg, decide_eq_true hb1, Bool.false_or, Bool.true_and, Bool.eq_iff_iff]
        simp
      · rw [if_neg hb1]; exact fin false (by unfold Ps; simp [hb1]; omega)
theorem short {n : Nat} (h : n ≤ 40) : n < 17592186044416 := Nat.lt_of_le_of_lt h (by decide)
theorem loop {k l w b : Int} (L : List S45) (hL : L.length ≤ 40) : ∀ (d i N : Nat) (t : Int) (ts ws : List Int) (s : List Int), L.length - i = d → i ≤ L.length → 2400 + 200 * d ≤ N → ts.length = i → ws.length = i → 0 ≤ t → t ≤ 1048576 * i → mayF k l w b t 0 s [] = true → (∀ x ∈ ts, 0 ≤ x ∧ x ≤ t) → (∀ x ∈ ws, 0 ≤ x ∧ x ≤ 1048576) → (∀ c, t / (w / b) - b < c → c ≤ t / (w / b) → inF s (t / (w / b)) b c = sg (fun x => decide (x / (w / b) = c)) ts ws) →
    sandglasslaw12_RingRate.l0 N L t (w / b) ts ws (i : Int) k l w b t 0 s [] = some true := by
  intro d
  induction d with
  | zero =>
    intro i N t ts ws s hd hi hN _ _ _ _ _ _ _ _
    obtain ⟨n, rfl⟩ : ∃ n, N = n + 1 := ⟨N - 1, by omega⟩
    rw [sandglasslaw12_RingRate.l0, if_neg (by omega), live_at (by omega), Option.bind_some]
  | succ d ih =>
    intro i N t ts ws s hd hi hN hts hws t0 t1 hm hbt hb hs
    obtain ⟨n, rfl⟩ : ∃ n, N = n + 2 + 3 * (i + 1) + 3 := ⟨N - 3 * (i + 1) - 5, by omega⟩
    have J2t : sandglasslaw12_RingRate.j2 (n + 2 + 3 * (i + 1) + 2) L t (w / b) ts ws (i : Int) true k l w b t 0 s [] = some true := by
      rw [show n + 2 + 3 * (i + 1) + 2 = (n + 2 + 3 * (i + 1) + 1) + 1 from rfl, sandglasslaw12_RingRate.j2, if_pos rfl, live_at (by omega), Option.bind_some]
    rw [show n + 2 + 3 * (i + 1) + 3 = (n + 2 + 3 * (i + 1) + 2) + 1 from rfl, sandglasslaw12_RingRate.l0, if_pos (by omega), if_pos (by omega)]
    obtain ⟨e, he⟩ : ∃ e, rd_T45 L (i : Int) = e := ⟨_, rfl⟩
    rw [he]
    by_cases e0 : e.f0 < 0
    · rw [if_pos e0]; exact J2t
    by_cases e1 : e.f0 > 1048576
    · rw [if_neg e0, if_pos e1]; exact J2t
    rw [if_neg e0, if_neg e1, weigh_r, Option.bind_some]
    cases hx : weighF e.f1
    · exact J2t
    have hx' := weigh_is.1 hx
    obtain ⟨hk, hp, a0, a1, hv, hh, hs', ho, hc, hz⟩ := may_is hm
    have q := pol_is hp
    have hsw : w / b ≤ w := Int.ediv_le_self _ (by omega)
    have hsl : s.length ≤ 40 := by rcases hs' with e | e; rw [e]; simp; omega
    rw [Bool.not_true, show n + 2 + 3 * (i + 1) + 2 = (n + 2 + 3 * (i + 1) + 1) + 1 from rfl, sandglasslaw12_RingRate.j2, if_neg (by simp), if_pos (by omega), if_pos (by omega), he, wr (x := t + e.f0) (by omega) (by omega)]
    obtain ⟨u, hu⟩ : ∃ u, t + e.f0 = u := ⟨_, rfl⟩
    rw [hu]
    have hmu : mx u t = u := by unfold mx; split <;> omega
    have tu : timeF u = true := time_is.2 (by omega)
    have hmono : t / (w / b) ≤ u / (w / b) := Int.ediv_le_ediv (by omega) (by omega)
    have nu := num_bd (t := u) (sl := w / b) (by omega) q.2.2.2.2.2.2.2.1
    have hmul := num_mul (u := u) (sl := w / b) q.2.2.2.2.2.2.2.1
    have eA : askF l w b t s u e.f1 = askR l w b u (dF w b t s u) e.f1 := by unfold askF; rw [hmu]
    have hd2 := d_ok hm u
    have htl := tot_le hm (u := u) (by omega)
    have hFd : ∀ c, u / (w / b) - b < c → c ≤ u / (w / b) → inF (dF w b t s u) (u / (w / b)) b c = sg (fun x => decide (x / (w / b) = c)) ts ws := by
      intro c c0 c1
      rw [show inF (dF w b t s u) (u / (w / b)) b c = inF s (t / (w / b)) b c from inF_atL (by omega) c0 c1]
      by_cases hct : c ≤ t / (w / b)
      · exact hs c (by omega) hct
      · rw [sg_none (fun x hx => by
          have := Int.ediv_le_ediv (a := x) (b := t) (show 0 < w / b by omega) (hbt x hx).2
          exact decide_eq_false (by omega))]
        unfold inF; rw [if_pos (Or.inr (Or.inl (by omega)))]
    generalize dF w b t s u = D at hd2 htl hFd eA
    have hDt := hd2.tot (by omega) nu.1
    have b1 : ts.length ≤ 40 := by omega
    have b2 : ws.length ≤ 40 := by omega
    -- what is common to both ends
    have G : ∀ (D' : List Int) (y : Int) (al : Bool) (rem ret res : Int), OkS D' (u / (w / b)) b l → tot D' ≤ l → 0 ≤ y → y ≤ 1048576 → (∀ c, u / (w / b) - b < c → c ≤ u / (w / b) → inF D' (u / (w / b)) b c = sg (fun x => decide (x / (w / b) = c)) (ts ++ [u]) (ws ++ [y])) → (al = false → y = 0 ∧ l < tot D' + e.f1) →
        sandglasslaw12_RingRate.j3 (n + 2 + 3 * (i + 1) + 1) L u (w / b) (ts ++ [u]) ws (i : Int) y k l w b u 0 D' [] al rem ret res = some true := by
      intro D' y al rem ret res hD' hDl' y0 y1 hF' hal
      have hD't := hD'.tot (by omega) nu.1
      have hm2 : mayF k l w b u 0 D' [] = true := may_to hm (by omega) (by omega) hD' hDl'
      have hbt2 : ∀ x ∈ ts ++ [u], 0 ≤ x ∧ x ≤ u := fun x hx => by
        rcases List.mem_append.1 hx with h3 | h3
        · have := hbt x h3; omega
        · simp at h3; omega
      have hb2 : ∀ x ∈ ws ++ [y], 0 ≤ x ∧ x ≤ 1048576 := fun x hx => by
        rcases List.mem_append.1 hx with h3 | h3
        · exact hb x h3
        · simp at h3; omega
      have hin := inner (M := n + 2) (L := L) (t := u) (k := k) (l := l) (w := w) (b := b) (a0 := u) (a1 := 0) (sl := w / b) (a2 := D') (a3 := []) (c1 := al) (c2 := rem) (c3 := ret) (c4 := res) (ts := ts ++ [u]) (ws := ws ++ [y]) (i := i) (by simp [hts]) (by simp [hws]) (by omega) (by omega) (by omega) (by omega) (fun x hx => by have := hbt2 x hx; omega) hb2 (i + 1) 0 0 0 (by omega) (by omega) (by omega) (by omega) (by omega) (by omega)
      rw [show ((0 : Nat) : Int) = 0 from rfl, List.drop_zero, List.drop_zero, Int.zero_add, Int.zero_add] at hin
      rw [sandglasslaw12_RingRate.j3, if_pos (short b2), hin]
      have tots : tot D' = sg (fun x => decide (u / (w / b) - b + 1 ≤ x / (w / b)) && decide (x / (w / b) < u / (w / b) - b + 1 + ((b.toNat : Nat) : Int))) (ts ++ [u]) (ws ++ [y]) := by
        rw [hD't, sm_congr (G := fun c => sg (fun x => decide (x / (w / b) = c)) (ts ++ [u]) (ws ++ [y])) (fun c c0 c1 => hF' c (by omega) (by omega)), sm_sg]
      have hTw : (u / (w / b) - b + 1) * (w / b) = u / (w / b) * (w / b) - w + w / b := by
        rw [Int.add_mul, Int.sub_mul, Int.one_mul, q.2.2.2.2.2.2.1]
      have hT1 : (u / (w / b) + 1) * (w / b) = u / (w / b) * (w / b) + w / b := by rw [Int.add_mul, Int.one_mul]
      have hsh : sg (Ps u w (w / b) b) (ts ++ [u]) (ws ++ [y]) ≤ tot D' := by
        rw [tots]
        refine sg_le (fun x hx hP => ?_) (fun z hz => (hb2 z hz).1)
        have hxu := hbt2 x hx
        have h1 := Int.ediv_le_ediv (a := x) (b := u) (show 0 < w / b by omega) hxu.2
        unfold Ps at hP
        simp only [Bool.or_eq_true, Bool.and_eq_true, decide_eq_true_eq] at hP
        have h2 : u / (w / b) - b + 1 ≤ x / (w / b) := by
          rcases hP with hP | ⟨hb1, hP⟩
          · exact (Int.le_ediv_iff_mul_le (by omega)).2 (by omega)
          · omega
        simp only [Bool.and_eq_true, decide_eq_true_eq]
        omega
      have hlo : tot D' ≤ sg (Ql u w) (ts ++ [u]) (ws ++ [y]) := by
        rw [tots]
        refine sg_le (fun x hx hP => ?_) (fun z hz => (hb2 z hz).1)
        have hxu := hbt2 x hx
        simp only [Bool.and_eq_true, decide_eq_true_eq] at hP
        have h2 : (u / (w / b) - b + 1) * (w / b) ≤ x := (Int.le_ediv_iff_mul_le (by omega)).1 hP.1
        unfold Ql
        exact decide_eq_true (by omega)
      have hlb : sg (Ql u w) (ts ++ [u]) (ws ++ [y]) ≤ 42991616 := by
        have : ∀ (xs ys : List Int), (∀ z ∈ ys, 0 ≤ z ∧ z ≤ 1048576) → sg (Ql u w) xs ys ≤ 1048576 * (ys.length : Int) := by
          intro xs
          induction xs with
          | nil => intro ys _; simp only [sg]; omega
          | cons x xs ih =>
            intro ys h
            cases ys with
            | nil => simp [sg]
            | cons z zs =>
              simp only [sg, List.length_cons]
              have h1 := h z (by simp)
              have h2 := ih zs (fun a ha => h a (by simp [ha]))
              split <;> omega
        have h1 := this (ts ++ [u]) (ws ++ [y]) hb2
        rw [List.length_append, List.length_singleton] at h1
        omega
      have J7 : sandglasslaw12_RingRate.j7 (n + 1) L u (w / b) (ts ++ [u]) (ws ++ [y]) (i : Int) false k l w b u 0 D' [] = some true := by
        rw [sandglasslaw12_RingRate.j7, if_neg (by simp), wr (x := (i : Int) + 1) (by omega) (by omega), show (i : Int) + 1 = ((i + 1 : Nat) : Int) by omega]
        exact ih (i + 1) n u _ _ _ (by omega) (by omega) (by omega) (by simp [hts]) (by simp [hws]) (by omega) (by omega) hm2 hbt2 hb2 hF'
      have tD0 := tot_bd (ok_mem hD')
      rw [show n + 2 = (n + 1) + 1 from rfl, sandglasslaw12_RingRate.l1, if_neg (by omega), if_neg (by omega)]
      cases al with
      | true => rw [if_pos rfl]; exact J7
      | false =>
        have h2 := hal rfl
        rw [if_neg (by simp), if_pos (by omega), if_pos (by omega), he, wr (x := _ + e.f1) (by omega) (by omega), decide_eq_false (by omega)]
        exact J7
    rw [ask_f (by omega) k l w b t 0 s [] u e.f1 (by omega), Option.bind_some, ask_is hm tu hx, eA, if_pos (short b1), Option.bind_some]
    by_cases c1 : tot D + e.f1 ≤ l
    · rw [askR_pos c1, if_pos rfl]
      have hA := d_add hd2 (by omega) nu.1 (by omega) (by omega) c1
      have hAt := tot_addW hd2 (by omega) nu.1 (by omega) (by omega) c1
      refine G (addW D (u / (w / b)) b e.f1) e.f1 true _ _ _ hA (by omega) (by omega) (by omega) (fun c c0 c1 => ?_) (fun h => by cases h)
      rw [inF_addW hd2.len (by omega) nu.1 c0 c1, hFd c c0 c1, sg_snoc (by omega)]
      by_cases e2 : c = u / (w / b)
      · rw [if_pos e2, if_pos (decide_eq_true e2.symm)]
      · rw [if_neg e2, if_neg (by simp; omega)]
    · rw [askR_neg c1, if_neg (by simp)]
      refine G D 0 false _ _ _ hd2 htl (by omega) (by omega) (fun c c0 c1 => ?_) (fun _ => ⟨rfl, by omega⟩)
      rw [hFd c c0 c1, sg_snoc (by omega)]
      split <;> omega
theorem pure : Pure := by
  intro k l w b L _ _ _ _ wL
  refine ⟨15000, ?_⟩
  have T : ∀ x0 x1 x2 x3, sandglasslaw12_RingRate.j0 15000 L true x0 x1 x2 x3 = some true := by
    intros
    simp only [show (15000 : Nat) = 14999 + 1 from rfl, sandglasslaw12_RingRate.j0, if_true, live_at (show 40 ≤ 14999 by omega), Option.bind_some]
  unfold sandglasslaw12_RingRate.f
  by_cases hL : (L.length : Int) > 40
  · rw [if_pos hL, T]
  rw [if_neg hL, show (15000 : Nat) = 14997 + 3 from rfl, refCheck, Option.bind_some]
  rw [show (14997 : Nat) + 3 = 15000 from rfl]
  cases hp : polOk k l w b
  · simp [T]
  rw [if_pos rfl, if_pos rfl]
  by_cases hk : k = 3
  · subst hk
    have q := pol_is hp
    have hsw : w / b ≤ w := Int.ediv_le_self _ (by omega)
    have hm : mayF 3 l w b 0 0 [] [] = true := by
      unfold mayF timeF farZ okS
      simp only [Bool.and_eq_true, Bool.or_eq_true, decide_eq_true_eq]
      exact ⟨hp, trivial, ⟨by omega, by omega⟩, trivial, by simp, by simp, by simp, by simp [tot]; omega, by simp⟩
    rw [show ((3 : Int) != 3) = false by rfl]
    rw [show (15000 : Nat) = 14999 + 1 from rfl, sandglasslaw12_RingRate.j0, if_neg (by simp), if_neg (by omega), q.2.2.2.2.2.2.2.2, wr (x := w / b) (by omega) (by omega)]
    exact loop L (by omega) L.length 0 14999 0 [] [] [] (by omega) (by omega) (by omega) rfl rfl (by omega) (by omega) hm (by simp) (by simp) (fun c _ _ => by unfold inF; rw [if_pos (Or.inr (Or.inr rfl))]; rfl)
  · rw [show (k != 3) = true by simp [hk], T]
end Go.Proofs.Ytalcmlgkdkbbaaa.ringRate


namespace Go.Proofs.Ytalcmlgkdkbbaaa.ringRate
open Go.ChangeShapes Go.WideShapes Go.ChangeAt Go.RowKit
open Go.Proofs.Ytalcmlgkdkbbaaa.Op Go.Proofs.YtalcmlgkdkbbaaaW.PrintWords Go.Proofs.Ytalcmlgkdkbbaaa.Q
set_option linter.unusedVariables false
theorem own : ownKnob Try.prog.godebug = none := by kernel_rfl
theorem laidOut : laidOutB Try.prog = true := by kernel_rfl
instance : Inhabited S45 := ⟨z45⟩
set_option maxRecDepth 100000 in
set_option maxHeartbeats 2000000 in
theorem lifted (os : Os) (started : os.Started) (H : Type) (enc : TypeId × Value → H) :
    ReturnsInHanded {} Try.checked os 6 .any (Rows.ringRateSpec.pre6 enc Try.prog Try.f6 Rows.ringRateRow.domain false) (Rows.ringRateSpec.post enc Try.prog Try.f6 false true false false) := by
  refine returnsInHanded_of_change_sized (C := Try.checked) own started (by kernel_rfl) Try.func6
    (ChangeSpec.witness6 (enc := enc) (C := Try.checked) false ⟨#[], #[.agg #[.int .i64 0, .int .i64 0, .int .i64 0, .int .i64 0], .slice none 0 0], []⟩ 8 (by kernel_rfl) (by kernel_rfl) (by kernel_rfl) (by kernel_rfl)) ?_
  intro W base args ds gs before hval0 hW hcnd hsz0 _
  have hval : ∀ (j : Nat) t v, Try.f6.params[j]? = some t → args[j]? = some v → Value.okWide Try.prog W .any base t v := hval0
  have hW' := hW
  obtain ⟨p, q, hA0, hV, rfl, hfz, hnd⟩ := hW
  have hA : DataW.TrodAll enc Try.prog W 0 (fun _ => true) true Try.f6.params.toList args.toList ds p := hA0
  rw [Try.params6] at hA hval
  obtain ⟨v0, vs0, d0, ds0, p0, q0, hargs, rfl, rfl, h0, r0⟩ := trodAll_cons hA
  obtain ⟨v1, vs1, d1, ds1, p1, q1, rfl, rfl, rfl, h1, r1⟩ := trodAll_cons r0
  obtain ⟨rfl, rfl, rfl⟩ := trodAll_nil r1
  obtain rfl : args = #[v0, v1] := by cases args; simp_all
  obtain ⟨rfl, rfl⟩ := trodVars_none hV
  have k0 := h0
  obtain ⟨fu0, hf0⟩ := h0
  obtain ⟨cs0, rfl, _⟩ := okWide_struct Try.underlying23 (hval 0 23 v0 rfl rfl)
  obtain ⟨⟨a0_0, a0_1, a0_2, a0_3⟩, hK0, ⟨oka0_0, oka0_1, oka0_2, oka0_3⟩⟩ := ((Opens.struct Try.underlying23 (by kernel_rfl) (OpensG.cons (Opens.int Try.underlying3) (by kernel_rfl) (by kernel_rfl) (OpensG.cons (Opens.int Try.underlying3) (by kernel_rfl) (by kernel_rfl) (OpensG.cons (Opens.int Try.underlying3) (by kernel_rfl) (by kernel_rfl) (OpensG.one (Opens.int Try.underlying3) (by kernel_rfl) (by kernel_rfl))))))).out hf0
  obtain ⟨_, _, hcsa0, rfl, ⟨_, _, rfl, rfl, ⟨_, _, rfl, rfl, rfl⟩⟩⟩ := hK0
  obtain rfl := agg_of hcsa0
  have k1 := h1
  obtain ⟨fu1, hf1⟩ := h1
  obtain ⟨va1, vn1, vc1, rfl⟩ := okWide_slice Try.underlying41 (hval 1 41 v1 rfl rfl)
  obtain ⟨a1, ⟨Aa1, ca1, hcsa1, hca1, hra1⟩, oka1⟩ := ((Opens.slice Try.underlying41 (Opens.iso (Opens.struct Try.underlying45 (by kernel_rfl) (OpensG.cons (Opens.int Try.underlying3) (by kernel_rfl) (by kernel_rfl) (OpensG.one (Opens.int Try.underlying3) (by kernel_rfl) (by kernel_rfl)))) (fun x : S45 => (x.f0, x.f1)) (fun y => (⟨y.1, y.2⟩ : S45)) (fun _ => rfl)) (by kernel_rfl))).out hf1
  obtain ⟨e1_, e2_, e3_⟩ := slice_of hcsa1
  subst va1; subst vn1; subst vc1
  clear hA0 hval0 hsz0
  obtain ⟨k, hp⟩ := pure a0_0 a0_1 a0_2 a0_3 a1 oka0_0 oka0_1 oka0_2 oka0_3 oka1
  refine (sandglasslaw12_RingRate.calls k a0_0 a0_1 a0_2 a0_3 Aa1 ca1 a1 true W hra1 hca1 hp).mono fun e W' ⟨he, bel0⟩ => ?_
  have bel : Below W.heap.size W W' := bel0
  subst he
  exact ⟨_, rfl, _, _, _, [], _, [], hW', trodAll_mk1 (shut_bool Try.underlying4 _), (trodAll_cons_mk (Below.trod laidOut (by kernel_rfl) (of_decide_eq_true (by kernel_rfl)) k0 bel (trod_lt_all k0)) (trodAll_cons_mk (Below.trod laidOut (by kernel_rfl) (of_decide_eq_true (by kernel_rfl)) k1 bel (trod_lt_all k1)) trodAll_mk0)), rfl, bel.frame _, fun h => by cases h⟩
theorem over : Rows.ringRateRow.holds Try.pinned (OpenSpec.ofChange Rows.ringRateSpec) :=
  OpenClaim.holds_of_wide 6 Try.f6 rfl rfl rfl rfl rfl rfl rfl ⟨rfl, rfl, rfl, rfl, rfl⟩ rfl rfl rfl rfl rfl (by kernel_rfl) Try.func6 (by kernel_rfl)
    (of_decide_eq_true (by kernel_rfl)) (by unfold Func.isWrapper; first | (rw [if_pos (by decide +kernel)]; kernel_rfl) | (rw [if_neg (by decide +kernel)]; exact ⟨rfl, rfl⟩))
    (fun os started H enc _ => lifted os started H enc)
end Go.Proofs.Ytalcmlgkdkbbaaa.ringRate
namespace Go.Proofs.Ytalcmlgkdkbbaaa
/-- The statement. -/
theorem ringRate_holds : Rows.RingRateSaid := ringRate.over
#print axioms ringRate_holds
end Go.Proofs.Ytalcmlgkdkbbaaa

