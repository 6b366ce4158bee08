/- What a statement's input, read as data, is in memory: whole numbers, bools, strings, structs, arrays and slices of them, each told by a kind of the print's words. -/
import Derived.Test.YtonafabgbkohlaaWFoot
import Derived.Deep.Slices
import Derived.OpenShut
import Derived.SizedLaws
import Derived.WideShapes
namespace Go.Proofs.Ytonafabgbkohlaa.Op
open Go.RowKit Go.Proofs.YtonafabgbkohlaaW.PrintWords Go.WideShapes

/-- Whatever reads as a datum of the type t is told by the kind d, and is as 'ok' says. -/
def Opens (P : Program) (t : TypeId) {α : Type} (d : Kd α) (ok : α → Prop) : Prop :=
  ∀ {H : Type} {enc : TypeId × Value → H} {w : World} {base : Nat} {spare : Nat → Bool} {held : Bool} {fuel : Nat} {cs : List Value} {x : DataW H × List MemPlace},
    DataW.trod enc P w base spare held fuel t cs = some x → ∃ a, d.K w a cs ∧ ok a

theorem Opens.int {P : Program} {t : TypeId} {k : IntKind} (hu : P.underlying t = some (.int k)) : Opens P t (Kd.int k) (fun a => (Lit.int k a).wf = true) := by
  intro H enc w base spare held fuel cs x h
  obtain ⟨n, rfl, _, hw⟩ := DataW.trod_int hu h
  exact ⟨n, rfl, hw⟩
theorem Opens.bool {P : Program} {t : TypeId} (hu : P.underlying t = some .bool) : Opens P t Kd.bool (fun _ => True) := by
  intro H enc w base spare held fuel cs x h
  obtain ⟨n, rfl, _⟩ := DataW.trod_bool hu h
  exact ⟨n, rfl, trivial⟩
theorem Opens.string {P : Program} {t : TypeId} (hu : P.underlying t = some .string) : Opens P t Kd.string (fun s => s.size ≤ maxLen) := by
  intro H enc w base spare held fuel cs x h
  obtain ⟨n, rfl, _, hs⟩ := DataW.trod_string hu h
  exact ⟨n, rfl, hs⟩
theorem Opens.slice {P : Program} {t e : TypeId} {α : Type} [Inhabited α] {d : Kd α} {ok : α → Prop} (hu : P.underlying t = some (.slice e)) (he : Opens P e d ok) (hc : P.cellsOf e = d.sz) :
    Opens P t (Kd.slice e d) (fun xs => xs.length ≤ maxLen ∧ ∀ x ∈ xs, ok x) := by
  intro H enc w base spare held fuel cs x h
  rcases Deep.open_slice hu h with ⟨rfl, _⟩ | ⟨a, len, cap, m, n, D, Pl, rfl, _, hl, hm, hmm, _, hel⟩
  · exact ⟨[], ⟨none, 0, rfl, Nat.le_refl _, Kd.C_nil d w⟩, ⟨Nat.zero_le _, fun x hx => by cases hx⟩⟩
  · have hle : len ≤ m := by rw [hmm]; split <;> omega
    obtain ⟨f, hf⟩ := Deep.choose_lt (α := α) (n := len) (p := fun i p => ok p ∧ ∃ c, c.length = d.sz ∧ d.K w p c ∧ ∀ j u, c[j]? = some u → w.cell? (a.add (i * d.sz + j)) = some u) (fun i hi => by
      obtain ⟨cs', h1, h2⟩ := hel i (by omega)
      obtain ⟨y, hK, hok⟩ := he h2
      obtain ⟨_, hlen, hcell⟩ := World.cells?_some h1
      refine ⟨y, hok, cs', by rw [hlen, hc], hK, fun j u hj => ?_⟩
      have hlt : j < P.cellsOf e := by rw [← hlen]; exact (List.getElem?_eq_some_iff.1 hj).1
      have := hcell j hlt
      rw [hc, Deep.add_add] at this
      rw [this, hj])
    refine ⟨(List.range len).map f, ⟨some a, cap, by simp, by simpa using hl, ?_⟩, by simpa using Nat.le_trans hl hm, ?_⟩
    · refine ⟨rfl, ?_, fun _ => ⟨a, rfl, fun j p hj => ?_⟩⟩
      · have : maxLen ≤ 9223372036854775807 := by decide
        simp; omega
      · rw [List.getElem?_map] at hj
        obtain ⟨q, hq, rfl⟩ := Option.map_eq_some_iff.1 hj
        have hlt := (List.getElem?_eq_some_iff.1 hq).1
        rw [List.length_range] at hlt
        rw [List.getElem?_range hlt] at hq
        obtain rfl := Option.some.inj hq
        exact (hf j hlt).2
    · intro x hx
      obtain ⟨i, hi, rfl⟩ := List.mem_map.1 hx
      exact (hf i (List.mem_range.1 hi)).1
theorem Opens.iso {P : Program} {t : TypeId} {α β : Type} {d : Kd α} {ok : α → Prop} (h : Opens P t d ok) (f : β → α) (g : α → β) (hfg : ∀ y, f (g y) = y) : Opens P t (Kd.iso d f) (fun b => ok (f b)) := by
  intro H enc w base spare held fuel cs x hx
  obtain ⟨a, hK, hok⟩ := h hx
  exact ⟨g a, by show d.K w (f (g a)) cs; rw [hfg]; exact hK, by show ok (f (g a)); rw [hfg]; exact hok⟩

/-- Parts in line: each of a type, at a place. -/
def OpensG (P : Program) {β : Type} (ty : β → TypeId) (at_ : β → Nat) (l : List β) (off : Nat) {α : Type} (d : Kd α) (ok : α → Prop) : Prop :=
  ∀ {H : Type} {enc : TypeId × Value → H} {w : World} {base : Nat} {spare : Nat → Bool} {held : Bool} {fuel : Nat} {cs : List Value} {ys : List (DataW H × List MemPlace)},
    cs.length = off + d.sz → l.mapM (fun b => DataW.trod enc P w base spare held fuel (ty b) ((cs.drop (at_ b)).take (P.cellsOf (ty b)))) = some ys → ∃ a, d.K w a (cs.drop off) ∧ ok a

theorem OpensG.one {P : Program} {β : Type} {ty : β → TypeId} {at_ : β → Nat} {b : β} {off : Nat} {α : Type} {d : Kd α} {ok : α → Prop} (h : Opens P (ty b) d ok) (ha : at_ b = off) (hc : P.cellsOf (ty b) = d.sz) : OpensG P ty at_ [b] off d ok := by
  intro H enc w base spare held fuel cs ys hl hm
  simp only [List.mapM_cons, List.mapM_nil, Option.pure_def, Option.bind_eq_bind, Option.bind_eq_some_iff] at hm
  obtain ⟨y, hy, _⟩ := hm
  rw [ha, hc] at hy
  obtain ⟨a, hK, hok⟩ := h hy
  rw [List.take_of_length_le (by rw [List.length_drop]; omega)] at hK
  exact ⟨a, hK, hok⟩
theorem OpensG.cons {P : Program} {β : Type} {ty : β → TypeId} {at_ : β → Nat} {b : β} {l : List β} {off : Nat} {α γ : Type} {d : Kd α} {ok : α → Prop} {d2 : Kd γ} {ok2 : γ → Prop} (h : Opens P (ty b) d ok) (ha : at_ b = off) (hc : P.cellsOf (ty b) = d.sz)
    (h2 : OpensG P ty at_ l (off + d.sz) d2 ok2) : OpensG P ty at_ (b :: l) off (Kd.pair d d2) (fun p => ok p.1 ∧ ok2 p.2) := by
  intro H enc w base spare held fuel cs ys hl hm
  simp only [List.mapM_cons, Option.pure_def, Option.bind_eq_bind, Option.bind_eq_some_iff] at hm
  obtain ⟨y, hy, zs, hz, _⟩ := hm
  rw [ha, hc] at hy
  obtain ⟨a, hK, hok⟩ := h hy
  have hl' : cs.length = off + (d.sz + d2.sz) := hl
  obtain ⟨c, hK2, hok2⟩ := h2 (by omega) hz
  refine ⟨(a, c), ⟨_, _, ?_, hK, hK2⟩, hok, hok2⟩
  rw [← List.drop_drop, List.take_append_drop]
theorem Opens.struct {P : Program} {t : TypeId} {fs : Array Field} {α : Type} {d : Kd α} {ok : α → Prop} (hu : P.underlying t = some (.struct fs)) (hc : P.cellsOf t = d.sz) (h : OpensG P (fun f : Field => f.type) (fun f => f.offset) fs.toList 0 d ok) : Opens P t d ok := by
  intro H enc w base spare held fuel cs x hx
  cases fuel with
  | zero => simp [DataW.trod] at hx
  | succ n =>
    unfold DataW.trod at hx
    rw [hu] at hx
    split at hx <;> (try simp_all; done)
    all_goals
      rename_i heq
      injection heq with h1
      injection h1 with h2
      subst h2
      split at hx
      · rename_i hl
        obtain ⟨ys, hy, _⟩ := Option.map_eq_some_iff.1 hx
        have := h (by rw [hl, hc]; omega) hy
        simpa using this
      · cases hx
theorem Opens.array {P : Program} {t e : TypeId} {n : Nat} {α : Type} {d : Kd α} {ok : α → Prop} (hu : P.underlying t = some (.array n e)) (hc : P.cellsOf t = d.sz) (h : OpensG P (fun _ : Nat => e) (fun i => i * P.cellsOf e) (List.range n) 0 d ok) : Opens P t d ok := by
  intro H enc w base spare held fuel cs x hx
  cases fuel with
  | zero => simp [DataW.trod] at hx
  | succ m =>
    unfold DataW.trod at hx
    rw [hu] at hx
    split at hx <;> (try simp_all; done)
    all_goals
      rename_i heq
      injection heq with h1
      injection h1 with h2 h3
      subst h2 h3
      split at hx
      · rename_i hl
        obtain ⟨ys, hy, _⟩ := Option.map_eq_some_iff.1 hx
        have := h (by rw [hl, hc]; omega) hy
        simpa using this
      · cases hx
theorem okWide_array {P : Program} {w : World} {r : Reach} {base : Nat} {t e : TypeId} {n : Nat} {v : Value} (ht : P.underlying t = some (.array n e)) (h : Value.okWide P w r base t v) : ∃ cs, v = .agg cs := by
  unfold Value.okWide at h
  rw [ht] at h
  obtain ⟨cs, hcs, _⟩ := h
  exact ⟨cs, hcs⟩
theorem agg_of {cs : Array Value} {l : List Value} (h : (Value.agg cs).cells.toList = l) : cs = l.toArray := by
  rw [← h]; rfl
theorem slice_of {a A : Option Addr} {n m c C : Nat} (h : (Value.slice a n c).cells.toList = [.slice A m C]) : a = A ∧ n = m ∧ c = C := by
  simpa [Value.cells] using h
theorem trod_lt_all {H : Type} {enc : TypeId × Value → H} {P : Program} {w : World} {base : Nat} {spare : Nat → Bool} {held : Bool} {t : TypeId} {v : Value} {d : DataW H} {p : List MemPlace} (h : DataW.Trod enc P w base spare held t v d p) : ∀ x ∈ p, x.block < w.heap.size := by
  obtain ⟨m, hm⟩ := h
  exact DataW.trod_lt m _ _ _ hm
theorem Opens.out {P : Program} {t : TypeId} {α : Type} {d : Kd α} {ok : α → Prop} (h : Opens P t d ok) {H : Type} {enc : TypeId × Value → H} {w : World} {base : Nat} {spare : Nat → Bool} {held : Bool} {fuel : Nat} {cs : List Value} {x : DataW H × List MemPlace}
    (hx : DataW.trod enc P w base spare held fuel t cs = some x) : ∃ a, d.K w a cs ∧ ok a := h hx
attribute [irreducible] Opens OpensG
end Go.Proofs.Ytonafabgbkohlaa.Op
