/- The statement ExactAsks: whatever the input, the law's function returns true and leaves its arguments as they were. No further condition. -/
import Derived.Test.YtempbjcmhillgaaWFoot
import Derived.Deep.Slices
import Derived.OpenShut
import Derived.SizedLaws
import Derived.WideShapes
import Derived.Test.YtempbjcmhillgaaQ13
import Derived.Test.YtempbjcmhillgaaQ15
import Derived.Test.YtempbjcmhillgaaQ14
import Derived.Test.YtempbjcmhillgaaQ16
import Derived.Test.YtempbjcmhillgaaQ3
import Derived.IntWalk
import Derived.Test.YtempbjcmhillgaaQ24
import Derived.Test.YtempbjcmhillgaaQ19
import Derived.Test.YtempbjcmhillgaaQ20
import Derived.Test.YtempbjcmhillgaaQ23
import Derived.Test.YtempbjcmhillgaaQ25
import Derived.Test.YtempbjcmhillgaaQ26
import Derived.Test.YtempbjcmhillgaaQ0
import Derived.Test.YtempbjcmhillgaaQ27
import Derived.Test.YtempbjcmhillgaaRows
import Derived.WalkKit
import Derived.ProofKit
import Derived.ShutString
import Derived.ChangeOld
import Derived.Below
namespace Go.Proofs.Ytempbjcmhillgaa.Op
open Go.RowKit Go.Proofs.YtempbjcmhillgaaW.PrintWords Go.WideShapes

/-- Whatever reads as a datum of the type t is told by the kind d, and is as 'ok' says. -/
def Opens (P : Program) (t : TypeId) {α : Type} (d : Kd α) (ok : α → Prop) : Prop :=
  ∀ {H : Type} {enc : TypeId × Value → H} {w : World} {base : Nat} {spare : Nat → Bool} {held : Bool} {fuel : Nat} {cs : List Value} {x : DataW H × List MemPlace},
    DataW.trod enc P w base spare held fuel t cs = some x → ∃ a, d.K w a cs ∧ ok a

theorem Opens.int {P : Program} {t : TypeId} {k : IntKind} (hu : P.underlying t = some (.int k)) : Opens P t (Kd.int k) (fun a => (Lit.int k a).wf = true) := by
  intro H enc w base spare held fuel cs x h
  obtain ⟨n, rfl, _, hw⟩ := DataW.trod_int hu h
  exact ⟨n, rfl, hw⟩
theorem Opens.bool {P : Program} {t : TypeId} (hu : P.underlying t = some .bool) : Opens P t Kd.bool (fun _ => True) := by
  intro H enc w base spare held fuel cs x h
  obtain ⟨n, rfl, _⟩ := DataW.trod_bool hu h
  exact ⟨n, rfl, trivial⟩
theorem Opens.string {P : Program} {t : TypeId} (hu : P.underlying t = some .string) : Opens P t Kd.string (fun s => s.size ≤ maxLen) := by
  intro H enc w base spare held fuel cs x h
  obtain ⟨n, rfl, _, hs⟩ := DataW.trod_string hu h
  exact ⟨n, rfl, hs⟩
theorem Opens.slice {P : Program} {t e : TypeId} {α : Type} [Inhabited α] {d : Kd α} {ok : α → Prop} (hu : P.underlying t = some (.slice e)) (he : Opens P e d ok) (hc : P.cellsOf e = d.sz) :
    Opens P t (Kd.slice e d) (fun xs => xs.length ≤ maxLen ∧ ∀ x ∈ xs, ok x) := by
  intro H enc w base spare held fuel cs x h
  rcases Deep.open_slice hu h with ⟨rfl, _⟩ | ⟨a, len, cap, m, n, D, Pl, rfl, _, hl, hm, hmm, _, hel⟩
  · exact ⟨[], ⟨none, 0, rfl, Nat.le_refl _, Kd.C_nil d w⟩, ⟨Nat.zero_le _, fun x hx => by cases hx⟩⟩
  · have hle : len ≤ m := by rw [hmm]; split <;> omega
    obtain ⟨f, hf⟩ := Deep.choose_lt (α := α) (n := len) (p := fun i p => ok p ∧ ∃ c, c.length = d.sz ∧ d.K w p c ∧ ∀ j u, c[j]? = some u → w.cell? (a.add (i * d.sz + j)) = some u) (fun i hi => by
      obtain ⟨cs', h1, h2⟩ := hel i (by omega)
      obtain ⟨y, hK, hok⟩ := he h2
      obtain ⟨_, hlen, hcell⟩ := World.cells?_some h1
      refine ⟨y, hok, cs', by rw [hlen, hc], hK, fun j u hj => ?_⟩
      have hlt : j < P.cellsOf e := by rw [← hlen]; exact (List.getElem?_eq_some_iff.1 hj).1
      have := hcell j hlt
      rw [hc, Deep.add_add] at this
      rw [this, hj])
    refine ⟨(List.range len).map f, ⟨some a, cap, by simp, by simpa using hl, ?_⟩, by simpa using Nat.le_trans hl hm, ?_⟩
    · refine ⟨rfl, ?_, fun _ => ⟨a, rfl, fun j p hj => ?_⟩⟩
      · have : maxLen ≤ 9223372036854775807 := by decide
        simp; omega
      · rw [List.getElem?_map] at hj
        obtain ⟨q, hq, rfl⟩ := Option.map_eq_some_iff.1 hj
        have hlt := (List.getElem?_eq_some_iff.1 hq).1
        rw [List.length_range] at hlt
        rw [List.getElem?_range hlt] at hq
        obtain rfl := Option.some.inj hq
        exact (hf j hlt).2
    · intro x hx
      obtain ⟨i, hi, rfl⟩ := List.mem_map.1 hx
      exact (hf i (List.mem_range.1 hi)).1
theorem Opens.iso {P : Program} {t : TypeId} {α β : Type} {d : Kd α} {ok : α → Prop} (h : Opens P t d ok) (f : β → α) (g : α → β) (hfg : ∀ y, f (g y) = y) : Opens P t (Kd.iso d f) (fun b => ok (f b)) := by
  intro H enc w base spare held fuel cs x hx
  obtain ⟨a, hK, hok⟩ := h hx
  exact ⟨g a, by show d.K w (f (g a)) cs; rw [hfg]; exact hK, by show ok (f (g a)); rw [hfg]; exact hok⟩

/-- Parts in line: each of a type, at a place. -/
def OpensG (P : Program) {β : Type} (ty : β → TypeId) (at_ : β → Nat) (l : List β) (off : Nat) {α : Type} (d : Kd α) (ok : α → Prop) : Prop :=
  ∀ {H : Type} {enc : TypeId × Value → H} {w : World} {base : Nat} {spare : Nat → Bool} {held : Bool} {fuel : Nat} {cs : List Value} {ys : List (DataW H × List MemPlace)},
    cs.length = off + d.sz → l.mapM (fun b => DataW.trod enc P w base spare held fuel (ty b) ((cs.drop (at_ b)).take (P.cellsOf (ty b)))) = some ys → ∃ a, d.K w a (cs.drop off) ∧ ok a

theorem OpensG.one {P : Program} {β : Type} {ty : β → TypeId} {at_ : β → Nat} {b : β} {off : Nat} {α : Type} {d : Kd α} {ok : α → Prop} (h : Opens P (ty b) d ok) (ha : at_ b = off) (hc : P.cellsOf (ty b) = d.sz) : OpensG P ty at_ [b] off d ok := by
  intro H enc w base spare held fuel cs ys hl hm
  simp only [List.mapM_cons, List.mapM_nil, Option.pure_def, Option.bind_eq_bind, Option.bind_eq_some_iff] at hm
  obtain ⟨y, hy, _⟩ := hm
  rw [ha, hc] at hy
  obtain ⟨a, hK, hok⟩ := h hy
  rw [List.take_of_length_le (by rw [List.length_drop]; omega)] at hK
  exact ⟨a, hK, hok⟩
theorem OpensG.cons {P : Program} {β : Type} {ty : β → TypeId} {at_ : β → Nat} {b : β} {l : List β} {off : Nat} {α γ : Type} {d : Kd α} {ok : α → Prop} {d2 : Kd γ} {ok2 : γ → Prop} (h : Opens P (ty b) d ok) (ha : at_ b = off) (hc : P.cellsOf (ty b) = d.sz)
    (h2 : OpensG P ty at_ l (off + d.sz) d2 ok2) : OpensG P ty at_ (b :: l) off (Kd.pair d d2) (fun p => ok p.1 ∧ ok2 p.2) := by
  intro H enc w base spare held fuel cs ys hl hm
  simp only [List.mapM_cons, Option.pure_def, Option.bind_eq_bind, Option.bind_eq_some_iff] at hm
  obtain ⟨y, hy, zs, hz, _⟩ := hm
  rw [ha, hc] at hy
  obtain ⟨a, hK, hok⟩ := h hy
  have hl' : cs.length = off + (d.sz + d2.sz) := hl
  obtain ⟨c, hK2, hok2⟩ := h2 (by omega) hz
  refine ⟨(a, c), ⟨_, _, ?_, hK, hK2⟩, hok, hok2⟩
  rw [← List.drop_drop, List.take_append_drop]
theorem Opens.struct {P : Program} {t : TypeId} {fs : Array Field} {α : Type} {d : Kd α} {ok : α → Prop} (hu : P.underlying t = some (.struct fs)) (hc : P.cellsOf t = d.sz) (h : OpensG P (fun f : Field => f.type) (fun f => f.offset) fs.toList 0 d ok) : Opens P t d ok := by
  intro H enc w base spare held fuel cs x hx
  cases fuel with
  | zero => simp [DataW.trod] at hx
  | succ n =>
    unfold DataW.trod at hx
    rw [hu] at hx
    split at hx <;> (try simp_all; done)
    all_goals
      rename_i heq
      injection heq with h1
      injection h1 with h2
      subst h2
      split at hx
      · rename_i hl
        obtain ⟨ys, hy, _⟩ := Option.map_eq_some_iff.1 hx
        have := h (by rw [hl, hc]; omega) hy
        simpa using this
      · cases hx
theorem Opens.array {P : Program} {t e : TypeId} {n : Nat} {α : Type} {d : Kd α} {ok : α → Prop} (hu : P.underlying t = some (.array n e)) (hc : P.cellsOf t = d.sz) (h : OpensG P (fun _ : Nat => e) (fun i => i * P.cellsOf e) (List.range n) 0 d ok) : Opens P t d ok := by
  intro H enc w base spare held fuel cs x hx
  cases fuel with
  | zero => simp [DataW.trod] at hx
  | succ m =>
    unfold DataW.trod at hx
    rw [hu] at hx
    split at hx <;> (try simp_all; done)
    all_goals
      rename_i heq
      injection heq with h1
      injection h1 with h2 h3
      subst h2 h3
      split at hx
      · rename_i hl
        obtain ⟨ys, hy, _⟩ := Option.map_eq_some_iff.1 hx
        have := h (by rw [hl, hc]; omega) hy
        simpa using this
      · cases hx
theorem okWide_array {P : Program} {w : World} {r : Reach} {base : Nat} {t e : TypeId} {n : Nat} {v : Value} (ht : P.underlying t = some (.array n e)) (h : Value.okWide P w r base t v) : ∃ cs, v = .agg cs := by
  unfold Value.okWide at h
  rw [ht] at h
  obtain ⟨cs, hcs, _⟩ := h
  exact ⟨cs, hcs⟩
theorem agg_of {cs : Array Value} {l : List Value} (h : (Value.agg cs).cells.toList = l) : cs = l.toArray := by
  rw [← h]; rfl
theorem slice_of {a A : Option Addr} {n m c C : Nat} (h : (Value.slice a n c).cells.toList = [.slice A m C]) : a = A ∧ n = m ∧ c = C := by
  simpa [Value.cells] using h
theorem trod_lt_all {H : Type} {enc : TypeId × Value → H} {P : Program} {w : World} {base : Nat} {spare : Nat → Bool} {held : Bool} {t : TypeId} {v : Value} {d : DataW H} {p : List MemPlace} (h : DataW.Trod enc P w base spare held t v d p) : ∀ x ∈ p, x.block < w.heap.size := by
  obtain ⟨m, hm⟩ := h
  exact DataW.trod_lt m _ _ _ hm
theorem Opens.out {P : Program} {t : TypeId} {α : Type} {d : Kd α} {ok : α → Prop} (h : Opens P t d ok) {H : Type} {enc : TypeId × Value → H} {w : World} {base : Nat} {spare : Nat → Bool} {held : Bool} {fuel : Nat} {cs : List Value} {x : DataW H × List MemPlace}
    (hx : DataW.trod enc P w base spare held fuel t cs = some x) : ∃ a, d.K w a cs ∧ ok a := h hx
attribute [irreducible] Opens OpensG
end Go.Proofs.Ytempbjcmhillgaa.Op


namespace Go.Proofs.Ytempbjcmhillgaa.La
open Go.RowKit Go.Proofs.YtempbjcmhillgaaW.PrintWords Go.Proofs.YtempbjcmhillgaaW.PrintLast Go.Proofs.YtempbjcmhillgaaW.PrintMore Go.Proofs.Ytempbjcmhillgaa.Q
set_option linter.unusedSimpArgs false
set_option linter.unusedVariables false
theorem wr {x : Int} (h0 : -9223372036854775808 ≤ x) (h1 : x < 9223372036854775808) : wrap64 x = x := by unfold wrap64; omega
theorem mx_le (a b : Int) : a ≤ mx a b ∧ b ≤ mx a b ∧ (mx a b = a ∨ mx a b = b) := by unfold mx; split <;> omega
theorem mx_self (u : Int) : mx u u = u := by unfold mx; split <;> rfl
def timeF (t : Int) : Bool := decide (0 ≤ t) && decide (t ≤ 1099511627776)
def weighF (w : Int) : Bool := decide (1 ≤ w) && decide (w ≤ 1048576)
theorem time_f (t : Int) : exact_time.f t = some (timeF t) := by
  unfold exact_time.f timeF; by_cases h : t ≥ 0 <;> simp [h, show (0 ≤ t) = (t ≥ 0) from rfl]
theorem weigh_f (t : Int) : policy_Weighs.f t = some (weighF t) := by
  unfold policy_Weighs.f policy_within_int.f weighF; by_cases h : t ≥ 1 <;> simp [h, show (1 ≤ t) = (t ≥ 1) from rfl]
theorem time_is {t : Int} : timeF t = true ↔ 0 ≤ t ∧ t ≤ 1099511627776 := by unfold timeF; simp
theorem weigh_is {t : Int} : weighF t = true ↔ 1 ≤ t ∧ t ≤ 1048576 := by unfold weighF; simp
/-- All weights together. -/
def cnt : List S50 → Int
  | [] => 0
  | h :: t => h.f1 + cnt t
theorem cnt_append (a b : List S50) : cnt (a ++ b) = cnt a + cnt b := by
  induction a with
  | nil => simp [cnt]
  | cons h t ih => simp only [List.cons_append, cnt, ih]; omega
/-- Hits that rise, behind a tick, up to another one, of weights from 1 to a limit. -/
def okL (lim a : Int) : Int → List S50 → Bool
  | _, [] => true
  | last, h :: t => decide (last < h.f0) && (decide (h.f0 ≤ a) && (decide (1 ≤ h.f1) && (decide (h.f1 ≤ lim) && okL lim a h.f0 t)))
theorem okL_cons {lim a last : Int} {h : S50} {t : List S50} : okL lim a last (h :: t) = true ↔ last < h.f0 ∧ h.f0 ≤ a ∧ 1 ≤ h.f1 ∧ h.f1 ≤ lim ∧ okL lim a h.f0 t = true := by
  simp [okL]
theorem rd_drop (l : List S50) (i : Nat) (h : i < l.length) : l.drop i = rd_T50 l (i : Int) :: l.drop (i + 1) := by
  rw [List.drop_eq_getElem_cons h]
  congr 1
  unfold rd_T50
  rw [Int.toNat_natCast, List.getD_eq_getElem?_getD, List.getElem?_eq_getElem h]; rfl
/-- Weights that do not overflow. -/
def okW (l : List S50) : Prop := l.length ≤ 1000 ∧ ∀ h ∈ l, 0 ≤ h.f1 ∧ h.f1 ≤ 4194304
theorem okW_rd {l : List S50} (h : okW l) (i : Nat) (hi : i < l.length) : 0 ≤ (rd_T50 l (i : Int)).f1 ∧ (rd_T50 l (i : Int)).f1 ≤ 4194304 := by
  apply h.2
  unfold rd_T50
  rw [Int.toNat_natCast, List.getD_eq_getElem?_getD, List.getElem?_eq_getElem hi]
  exact List.getElem_mem hi
theorem cnt_bd {l : List S50} (h : ∀ x ∈ l, 0 ≤ x.f1 ∧ x.f1 ≤ 4194304) : 0 ≤ cnt l ∧ cnt l ≤ 4194304 * l.length := by
  induction l with
  | nil => simp [cnt]
  | cons x t ih =>
    have h1 := h x (by simp)
    have h2 := ih (fun y hy => h y (by simp [hy]))
    simp only [cnt, List.length_cons]
    omega
theorem okW_cnt {l : List S50} (h : okW l) : 0 ≤ cnt l ∧ cnt l ≤ 4194304000 := by
  have := cnt_bd h.2
  have := h.1
  omega
theorem count_l0 (l : List S50) (h : okW l) (N : Nat) : ∀ (d i : Nat) (n : Int), l.length - i = d → i ≤ l.length → d < N → 0 ≤ n → n ≤ 4194304 * i → exact_count.l0 N n l (l.length : Int) (i : Int) = some (n + cnt (l.drop i)) := by
  induction N with
  | zero => intro d i n _ _ hd; omega
  | succ N ih =>
    intro d i n hd hi hN n0 n1
    have hl := h.1
    simp only [exact_count.l0]
    by_cases hlt : (i : Int) < (l.length : Int)
    · have hw := okW_rd h i (by omega)
      rw [if_pos hlt, if_pos (by omega), if_pos hlt, wr (x := n + _) (by omega) (by omega), wr (x := (i : Int) + 1) (by omega) (by omega), show (i : Int) + 1 = ((i + 1 : Nat) : Int) by omega, ih (d - 1) (i + 1) _ (by omega) (by omega) (by omega) (by omega) (by omega), rd_drop l i (by omega)]
      simp only [cnt]; congr 1; omega
    · rw [if_neg hlt, List.drop_eq_nil_of_le (by omega)]; simp [cnt]
theorem count_f {n : Nat} (hn : 1100 ≤ n) {l : List S50} (h : okW l) : exact_count.f n l = some (cnt l) := by
  have hl := h.1
  unfold exact_count.f
  have := count_l0 l h n l.length 0 0 (by omega) (by omega) (by omega) (by omega) (by omega)
  simpa using this
/-- Those that count behind a tick. -/
def since (c : Int) (l : List S50) : List S50 := l.dropWhile fun h => decide (h.f0 ≤ c)
theorem since_l0 (l : List S50) (hl : l.length ≤ 1000) (t k p w b : Int) (hc : -9223372036854775808 ≤ t - w ∧ t - w < 9223372036854775808) (N : Nat) : ∀ (d i : Nat), l.length - i = d → i ≤ l.length → d < N → exact_since.l0 N l t (i : Int) k p w b = some (since (t - w) (l.drop i)) := by
  induction N with
  | zero => intro d i _ _ hd; omega
  | succ N ih =>
    intro d i hd hi hN
    simp only [exact_since.l0]
    by_cases hlt : (i : Int) < (l.length : Int)
    · rw [if_pos hlt, if_pos (by omega), wr hc.1 hc.2, rd_drop l i (by omega)]
      by_cases h1 : (rd_T50 l (i : Int)).f0 > t - w
      · rw [if_pos h1, if_pos (by omega)]
        unfold since
        rw [List.dropWhile_cons_of_neg (by simp; omega), Int.toNat_natCast, rd_drop l i (by omega)]
      · rw [if_neg h1, wr (x := (i : Int) + 1) (by omega) (by omega), show (i : Int) + 1 = ((i + 1 : Nat) : Int) by omega, ih (d - 1) (i + 1) (by omega) (by omega) (by omega)]
        unfold since
        rw [List.dropWhile_cons_of_pos (by simp; omega)]
    · rw [if_neg hlt, if_pos (by omega), if_pos (by omega), Int.toNat_natCast, List.drop_eq_nil_of_le (by omega)]
      rfl
theorem since_f {n : Nat} (hn : 1100 ≤ n) (k p w b : Int) {l : List S50} (hl : l.length ≤ 1000) (t : Int) (hc : -9223372036854775808 ≤ t - w ∧ t - w < 9223372036854775808) : exact_since.f n k p w b l t = some (since (t - w) l) := by
  unfold exact_since.f
  have := since_l0 l hl t k p w b hc n l.length 0 (by omega) (by omega) (by omega)
  simpa using this
theorem since_sub (c : Int) (l : List S50) : ∀ h ∈ since c l, h ∈ l := fun h hh => (List.dropWhile_sublist _).subset hh
theorem since_len (c : Int) (l : List S50) : (since c l).length ≤ l.length := (List.dropWhile_sublist _).length_le
theorem okW_since {c : Int} {l : List S50} (h : okW l) : okW (since c l) := ⟨Nat.le_trans (since_len c l) h.1, fun x hx => h.2 x (since_sub c l x hx)⟩
theorem clone_f {l : List S50} (h : l.length ≤ 1001) : api_Hit.f l = some l := by
  unfold api_Hit.f
  simp only [Option.bind_some, List.length_nil, List.nil_append]
  rw [if_pos (by omega)]
/-- Till when more than so much counts. -/
def waitU (w most : Int) : Int → Int → List S50 → Int
  | _, u, [] => u
  | n, u, h :: r => if n ≤ most then u else waitU w most (n - h.f1) (h.f0 + w) r
theorem wait_l0 (l : List S50) (h : okW l) (k p w b t most : Int) (w0 : 0 ≤ w) (w1 : w ≤ 1048576) (t0 : 0 ≤ t) (t1 : t ≤ 1099511627776) (ht : ∀ x ∈ l, 0 ≤ x.f0 ∧ x.f0 ≤ 1099511627776) (N : Nat) : ∀ (d i : Nat) (n u : Int), l.length - i = d → i ≤ l.length → d < N → n ≤ 4194304000 → 0 ≤ n + 4194304 * i → 0 ≤ u → u ≤ 1099512676352 →
    exact_wait.l0 N t most n u l (l.length : Int) (i : Int) k p w b = some (waitU w most n u (l.drop i) - t) := by
  induction N with
  | zero => intro d i n u _ _ hd; omega
  | succ N ih =>
    intro d i n u hd hi hN n0 n1 u0 u1
    have hl := h.1
    simp only [exact_wait.l0]
    by_cases hlt : (i : Int) < (l.length : Int)
    · have hw := okW_rd h i (by omega)
      have hx : 0 ≤ (rd_T50 l (i : Int)).f0 ∧ (rd_T50 l (i : Int)).f0 ≤ 1099511627776 := by
        apply ht
        unfold rd_T50
        rw [Int.toNat_natCast, List.getD_eq_getElem?_getD, List.getElem?_eq_getElem (show i < l.length by omega)]
        exact List.getElem_mem _
      rw [if_pos hlt, if_pos (by omega), if_pos hlt, rd_drop l i (by omega)]
      simp only [waitU]
      by_cases h1 : n ≤ most
      · rw [if_pos h1, if_pos h1, wr (by omega) (by omega)]
      · rw [if_neg h1, if_neg h1, wr (x := n - _) (by omega) (by omega), wr (x := (rd_T50 l (i : Int)).f0 + w) (by omega) (by omega), wr (x := (i : Int) + 1) (by omega) (by omega), show (i : Int) + 1 = ((i + 1 : Nat) : Int) by omega]
        exact ih (d - 1) (i + 1) _ _ (by omega) (by omega) (by omega) (by omega) (by omega) (by omega) (by omega)
    · rw [if_neg hlt, List.drop_eq_nil_of_le (by omega)]
      simp only [waitU]
      rw [wr (by omega) (by omega)]
theorem wait_f {n : Nat} (hn : 1100 ≤ n) {l : List S50} (h : okW l) (k p w b t most : Int) (w0 : 0 ≤ w) (w1 : w ≤ 1048576) (t0 : 0 ≤ t) (t1 : t ≤ 1099511627776) (ht : ∀ x ∈ l, 0 ≤ x.f0 ∧ x.f0 ≤ 1099511627776) : exact_wait.f n k p w b l t most = some (waitU w most (cnt l) t l - t) := by
  have c := okW_cnt h
  have hl := h.1
  unfold exact_wait.f
  rw [count_f hn h, Option.bind_some]
  have := wait_l0 l h k p w b t most w0 w1 t0 t1 ht n l.length 0 (cnt l) t (by omega) (by omega) (by omega) (by omega) (by omega) (by omega) (by omega)
  simpa using this
theorem may_l0 (L : List S50) (hL : L.length ≤ 1000) (k l w b a v : Int) (s : List Int) (hs : List S50) (hl : l ≤ 16) (N : Nat) : ∀ (d i : Nat) (n last : Int), L.length - i = d → i ≤ L.length → 2 * d < N → 0 ≤ n → n ≤ 16 * i → exact_May.l0 N n last L (L.length : Int) (i : Int) k l w b a v s hs = some (okL l a last (L.drop i) && decide (n + cnt (L.drop i) ≤ l)) := by
  induction N using Nat.strongRecOn with
  | _ N ih =>
    intro d i n last hd hi hN n0 n1
    obtain ⟨M, rfl⟩ : ∃ M, N = M + 1 := ⟨N - 1, by omega⟩
    simp only [exact_May.l0]
    by_cases hlt : (i : Int) < (L.length : Int)
    · obtain ⟨P, rfl⟩ : ∃ P, M = P + 1 := ⟨M - 1, by omega⟩
      rw [if_pos hlt, if_pos (by omega), if_pos hlt, rd_drop L i (by omega)]
      generalize rd_T50 L (i : Int) = h
      have F : ∀ x1 x2, exact_May.j2 (P + 1) n L (L.length : Int) (i : Int) true k l w b a v s hs x1 x2 = some false := by intros; simp [exact_May.j2]
      by_cases c1 : h.f0 ≤ last
      · rw [if_pos c1, F]; simp [okL, show ¬ last < h.f0 by omega]
      rw [if_neg c1]
      by_cases c2 : h.f0 > a
      · rw [if_pos c2, F]; simp [okL, show ¬ h.f0 ≤ a by omega]
      rw [if_neg c2]
      by_cases c3 : h.f1 < 1
      · rw [if_pos c3, F]; simp [okL, show ¬ 1 ≤ h.f1 by omega]
      rw [if_neg c3]
      by_cases c4 : h.f1 > l
      · rw [decide_eq_true c4, F]; simp [okL, show ¬ h.f1 ≤ l by omega]
      rw [decide_eq_false c4]
      simp only [exact_May.j2, Bool.false_eq_true, if_false]
      rw [wr (x := n + h.f1) (by omega) (by omega), wr (x := (i : Int) + 1) (by omega) (by omega), show (i : Int) + 1 = ((i + 1 : Nat) : Int) by omega, ih P (by omega) (d - 1) (i + 1) _ _ (by omega) (by omega) (by omega) (by omega) (by omega)]
      simp only [okL, cnt, decide_eq_true (show last < h.f0 by omega), decide_eq_true (show h.f0 ≤ a by omega), decide_eq_true (show 1 ≤ h.f1 by omega), decide_eq_true (show h.f1 ≤ l by omega), Bool.true_and]
      exact congrArg (fun q => some (okL l a h.f0 (List.drop (i + 1) L) && q)) (decide_eq_decide.2 (by omega))
    · rw [if_neg hlt, List.drop_eq_nil_of_le (by omega)]; simp [okL, cnt]
def mayF (k l w b a v : Int) (s : List Int) (h : List S50) : Bool :=
  polOk k l w b && (decide (k = 4) && (timeF a && (decide (v = 0) && (decide (s.length = 0) && (okL l a (mx (-1) (a - w)) h && decide (cnt h ≤ l))))))
theorem pol_is {k l w b : Int} (h : polOk k l w b = true) : 1 ≤ l ∧ l ≤ 1048576 ∧ 1 ≤ w ∧ w ≤ 1048576 ∧ (k = 4 → l ≤ 16) := by
  unfold polOk withinB at h
  simp only [Bool.and_eq_true, decide_eq_true_eq] at h
  obtain ⟨⟨⟨_, hl⟩, hw⟩, hb⟩ := h
  refine ⟨hl.1, hl.2, hw.1, hw.2, fun h4 => ?_⟩
  rw [if_neg (by omega), if_pos h4] at hb
  unfold exactB at hb
  simp only [Bool.and_eq_true, decide_eq_true_eq] at hb
  exact hb.2
theorem may_f {n : Nat} (hn : 2100 ≤ n) (k l w b a v : Int) (s : List Int) (h : List S50) (hh : h.length ≤ 1000) : exact_May.f n k l w b a v s h = some (mayF k l w b a v s h) := by
  obtain ⟨n, rfl⟩ : ∃ m, n = m + 1 := ⟨n - 1, by omega⟩
  unfold exact_May.f policy_Check.f mayF
  simp only [Option.bind_some, time_f]
  cases hp : polOk k l w b
  · simp [exact_May.j0]
  · have q := pol_is hp
    by_cases h1 : k = 4
    · cases h2 : timeF a
      · simp [h1, exact_May.j0]
      · have ha := time_is.1 h2
        by_cases h3 : v = 0
        · by_cases h4 : s.length = 0
          · have e : ((s.length : Int) != 0) = false := by simp [h4]
            simp only [h1, h3, e, if_true, exact_May.j0, Bool.false_eq_true, if_false]
            rw [wr (x := a - w) (by omega) (by omega)]
            have := may_l0 h hh 4 l w b a 0 s h (q.2.2.2.2 h1) n h.length 0 0 (mx (-1) (a - w)) (by omega) (by omega) (by omega) (by omega) (by omega)
            rw [show ((0 : Nat) : Int) = 0 from rfl] at this
            rw [this]; simp [h4]
          · have e : ((s.length : Int) != 0) = true := by rw [bne_iff_ne]; omega
            simp [h1, h3, e, h4, exact_May.j0]
        · simp [h1, h3, exact_May.j0]
    · simp [h1, exact_May.j0]
theorem may_is {k l w b a v : Int} {s : List Int} {h : List S50} (hm : mayF k l w b a v s h = true) : k = 4 ∧ 1 ≤ l ∧ l ≤ 16 ∧ 1 ≤ w ∧ w ≤ 1048576 ∧ 0 ≤ a ∧ a ≤ 1099511627776 ∧ v = 0 ∧ s = [] ∧ okL l a (mx (-1) (a - w)) h = true ∧ cnt h ≤ l := by
  unfold mayF timeF at hm
  simp only [Bool.and_eq_true, decide_eq_true_eq] at hm
  obtain ⟨hp, hk, ha, hv, hs, ho, hc⟩ := hm
  have q := pol_is hp
  exact ⟨hk, q.1, q.2.2.2.2 hk, q.2.2.1, q.2.2.2.1, ha.1, ha.2, hv, List.length_eq_zero_iff.1 hs, ho, hc⟩
theorem may_to {k l w b a v : Int} {s : List Int} {h : List S50} (hm : mayF k l w b a v s h = true) {a' : Int} {h' : List S50} (h0 : 0 ≤ a') (h1 : a' ≤ 1099511627776) (h2 : okL l a' (mx (-1) (a' - w)) h' = true) (h3 : cnt h' ≤ l) : mayF k l w b a' 0 [] h' = true := by
  unfold mayF timeF at hm ⊢
  simp only [Bool.and_eq_true, decide_eq_true_eq] at hm ⊢
  exact ⟨hm.1, hm.2.1, ⟨h0, h1⟩, by simp, by simp, h2, h3⟩
/-- A weight more at a tick. -/
def addL (t x : Int) (l : List S50) : List S50 :=
  if l.length = 0 ∨ (rd_T50 l ((l.length : Int) - 1)).f0 ≠ t then l ++ [⟨t, x⟩] else l.set (l.length - 1) ⟨(rd_T50 l ((l.length : Int) - 1)).f0, (rd_T50 l ((l.length : Int) - 1)).f1 + x⟩
def askF (l w a : Int) (h : List S50) (t x : Int) : Int × Int × List Int × List S50 × Bool × Int × Int × Int :=
  let u := mx t a
  let r := since (u - w) h
  if cnt r + x ≤ l then (u, 0, [], addL u x r, true, l - cnt (addL u x r), 0, waitU w 0 (cnt (addL u x r)) u (addL u x r) - u)
  else (u, 0, [], r, false, l - cnt r, if x > l then 2199023255552 else waitU w (l - x) (cnt r) u r - u, waitU w 0 (cnt r) u r - u)
def askV (k l w b a v : Int) (s : List Int) (h : List S50) (t x : Int) : Int × Int × List Int × List S50 × Bool × Int × Int × Int :=
  if mayF k l w b a v s h && timeF t && weighF x then askF l w a h t x else (a, v, s, h, false, 0, 0, 0)
/-- Hits that may be. -/
theorem okL_mem {lim a : Int} : ∀ {last : Int} {h : List S50}, okL lim a last h = true → ∀ x ∈ h, last < x.f0 ∧ x.f0 ≤ a ∧ 1 ≤ x.f1 ∧ x.f1 ≤ lim := by
  intro last h
  induction h generalizing last with
  | nil => intro _ x hx; cases hx
  | cons y t ih =>
    intro ho x hx
    have q := okL_cons.1 ho
    rcases List.mem_cons.1 hx with rfl | hx
    · exact ⟨q.1, q.2.1, q.2.2.1, q.2.2.2.1⟩
    · have := ih q.2.2.2.2 x hx
      exact ⟨by omega, this.2⟩
theorem okL_W {lim a last : Int} {h : List S50} (hl : lim ≤ 16) (ho : okL lim a last h = true) (hh : h.length ≤ 1000) : okW h := ⟨hh, fun x hx => by have := okL_mem ho x hx; omega⟩
theorem okL_since {lim a c : Int} : ∀ {last : Int} {h : List S50}, okL lim a last h = true → okL lim a last (since c h) = true ∧ ∀ x ∈ since c h, c < x.f0 := by
  intro last h
  induction h generalizing last with
  | nil => intro _; exact ⟨rfl, fun x hx => by cases hx⟩
  | cons y t ih =>
    intro ho
    have q := okL_cons.1 ho
    unfold since
    by_cases hy : y.f0 ≤ c
    · rw [List.dropWhile_cons_of_pos (by simpa using hy)]
      have := ih q.2.2.2.2
      refine ⟨?_, this.2⟩
      have h1 := this.1
      unfold since at h1
      generalize List.dropWhile (fun h => decide (h.f0 ≤ c)) t = r at h1
      cases r with
      | nil => rfl
      | cons z r => have q2 := okL_cons.1 h1; exact okL_cons.2 ⟨by omega, q2.2⟩
    · rw [List.dropWhile_cons_of_neg (by simpa using hy)]
      refine ⟨ho, fun x hx => ?_⟩
      rcases List.mem_cons.1 hx with rfl | hx
      · omega
      · have := okL_mem q.2.2.2.2 x hx; omega
theorem okL_up {lim a a' : Int} : ∀ {last : Int} {h : List S50}, okL lim a last h = true → (∀ x ∈ h, x.f0 ≤ a') → okL lim a' last h = true := by
  intro last h
  induction h generalizing last with
  | nil => intro _ _; rfl
  | cons y t ih =>
    intro ho hx
    have q := okL_cons.1 ho
    exact okL_cons.2 ⟨q.1, hx y (by simp), q.2.2.1, q.2.2.2.1, ih q.2.2.2.2 (fun x h => hx x (by simp [h]))⟩
theorem okL_low {lim a last last' : Int} {h : List S50} (ho : okL lim a last h = true) (hx : ∀ x ∈ h, last' < x.f0) : okL lim a last' h = true := by
  cases h with
  | nil => rfl
  | cons y t => have q := okL_cons.1 ho; exact okL_cons.2 ⟨hx y (by simp), q.2⟩
/-- The last hit. -/
theorem rd_last (m : List S50) (y : S50) : rd_T50 (m ++ [y]) (((m ++ [y]).length : Int) - 1) = y := by
  unfold rd_T50
  have : (((m ++ [y]).length : Int) - 1).toNat = m.length := by rw [List.length_append, List.length_singleton]; omega
  rw [this, List.getD_eq_getElem?_getD, List.getElem?_append_right (Nat.le_refl _)]
  simp
theorem addL_nil (t x : Int) : addL t x [] = [⟨t, x⟩] := by unfold addL; simp
theorem addL_snoc (t x : Int) (m : List S50) (y : S50) : addL t x (m ++ [y]) = if y.f0 = t then m ++ [⟨t, y.f1 + x⟩] else m ++ [y, ⟨t, x⟩] := by
  unfold addL
  rw [rd_last]
  by_cases h : y.f0 = t
  · rw [if_neg (by simp [h]), if_pos h, h]
    simp
  · rw [if_pos (Or.inr h), if_neg h]
    simp
theorem snoc_cases (l : List S50) : l = [] ∨ ∃ m y, l = m ++ [y] := by
  rcases List.eq_nil_or_concat l with h | ⟨m, y, h⟩
  · exact Or.inl h
  · exact Or.inr ⟨m, y, by simpa using h⟩
theorem cnt_add (t x : Int) (l : List S50) : cnt (addL t x l) = cnt l + x := by
  rcases snoc_cases l with rfl | ⟨m, y, rfl⟩
  · rw [addL_nil]; simp [cnt]
  · rw [addL_snoc]
    split <;> simp only [cnt_append, cnt] <;> omega
theorem add_len (t x : Int) (l : List S50) : (addL t x l).length ≤ l.length + 1 := by
  rcases snoc_cases l with rfl | ⟨m, y, rfl⟩
  · rw [addL_nil]; simp
  · rw [addL_snoc]
    split <;> simp
theorem add_mem {t x : Int} {l : List S50} : ∀ h ∈ addL t x l, h.f0 = t ∨ h ∈ l := by
  intro h hh
  rcases snoc_cases l with rfl | ⟨m, y, rfl⟩
  · rw [addL_nil] at hh; simp at hh; left; rw [hh]
  · rw [addL_snoc] at hh
    split at hh
    · rcases List.mem_append.1 hh with h1 | h1
      · right; simp [h1]
      · simp at h1; left; rw [h1]
    · rename_i hne
      rcases List.mem_append.1 hh with h1 | h1
      · right; simp [h1]
      · simp at h1
        rcases h1 with rfl | rfl
        · right; simp
        · left; rfl
theorem okW_add {t x : Int} {l : List S50} (h : okW l) (hl : l.length ≤ 999) (h0 : 0 ≤ x) (h1 : x ≤ 1048576) (h2 : ∀ y ∈ l, y.f1 ≤ 2097152) : okW (addL t x l) := by
  refine ⟨by have := add_len t x l; omega, ?_⟩
  intro y hy
  rcases snoc_cases l with rfl | ⟨m, z, rfl⟩
  · rw [addL_nil] at hy; simp at hy; rw [hy]; dsimp only; omega
  · rw [addL_snoc] at hy
    have hz := h.2 z (by simp)
    have hz2 := h2 z (by simp)
    split at hy
    · rcases List.mem_append.1 hy with h3 | h3
      · exact h.2 y (by simp [h3])
      · simp at h3; rw [h3]; dsimp only; omega
    · rcases List.mem_append.1 hy with h3 | h3
      · exact h.2 y (by simp [h3])
      · simp at h3
        rcases h3 with rfl | rfl
        · exact hz
        · dsimp only; omega
theorem ask_f {n : Nat} (hn : 2200 ≤ n) (k l w b a v : Int) (s : List Int) (h : List S50) (t x : Int) (hh : h.length ≤ 900) : exact_Ask.f n k l w b a v s h t x = some (askV k l w b a v s h t x) := by
  obtain ⟨n, rfl⟩ : ∃ m, n = m + 3 := ⟨n - 3, by omega⟩
  have T : exact_Ask.j0 (n + 3) t x true k l w b a v s h = some (a, v, s, h, false, 0, 0, 0) := by simp [exact_Ask.j0]
  unfold exact_Ask.f askV
  rw [may_f (by omega) _ _ _ _ _ _ _ _ (by omega), Option.bind_some, time_f, weigh_f]
  cases hm : mayF k l w b a v s h
  · simp [T]
  cases ht : timeF t
  · simp [T]
  cases hx : weighF x
  · simp [T]
  obtain ⟨hk, l0, l1, w0, w1, a0, a1, hv, hs, ho, hc⟩ := may_is hm
  have tt := time_is.1 ht
  have xx := weigh_is.1 hx
  have mm := mx_le t a
  have hW := okL_W l1 ho (by omega)
  have hr := okL_since (c := mx t a - w) ho
  have hrW := okW_since (c := mx t a - w) hW
  have hrl := since_len (mx t a - w) h
  simp only [if_true, Option.bind_some, Bool.not_true, Bool.and_self, exact_Ask.j0, Bool.false_eq_true, if_false]
  generalize hu : mx t a = u at *
  rw [since_f (by omega) k l w b (by omega) u (by omega), Option.bind_some]
  unfold askF
  dsimp only
  rw [hu]
  generalize hR : since (u - w) h = r at *
  have cr := okW_cnt hrW
  have hmem : ∀ y ∈ r, 0 ≤ y.f0 ∧ y.f0 ≤ u := fun y hy => by
    have q := okL_mem hr.1 y hy
    have := mx_le (-1) (a - w)
    exact ⟨by omega, by omega⟩
  have hmem2 : ∀ y ∈ r, y.f1 ≤ 2097152 := fun y hy => by have q := okL_mem hr.1 y hy; omega
  rw [clone_f (by omega), Option.bind_some, count_f (by omega) hrW, Option.bind_some, wr (x := cnt r + x) (by omega) (by omega)]
  have J2 : ∀ (q : List S50) (b1 : Bool) (i1 i2 i3 : Int), okW q → (∀ y ∈ q, 0 ≤ y.f0 ∧ y.f0 ≤ u) → exact_Ask.j2 (n + 1) u q k l w b b1 i1 i2 i3 = some (u, 0, [], q, b1, l - cnt q, i2, waitU w 0 (cnt q) u q - u) := by
    intro q b1 i1 i2 i3 hq hm2
    have cq := okW_cnt hq
    simp only [exact_Ask.j2]
    rw [count_f (by omega) hq, Option.bind_some, wait_f (by omega) hq k l w b u 0 (by omega) w1 (by omega) (by omega) (fun y hy => by have := hm2 y hy; omega), Option.bind_some, wr (x := l - cnt q) (by omega) (by omega)]
  have J2' : ∀ (q : List S50) (b1 : Bool) (i1 i2 i3 : Int), okW q → (∀ y ∈ q, 0 ≤ y.f0 ∧ y.f0 ≤ u) → exact_Ask.j2 (n + 2) u q k l w b b1 i1 i2 i3 = some (u, 0, [], q, b1, l - cnt q, i2, waitU w 0 (cnt q) u q - u) := by
    intro q b1 i1 i2 i3 hq hm2
    have cq := okW_cnt hq
    simp only [exact_Ask.j2]
    rw [count_f (by omega) hq, Option.bind_some, wait_f (by omega) hq k l w b u 0 (by omega) w1 (by omega) (by omega) (fun y hy => by have := hm2 y hy; omega), Option.bind_some, wr (x := l - cnt q) (by omega) (by omega)]
  by_cases hle : cnt r + x ≤ l
  · rw [if_pos hle, if_pos hle]
    have hA := okW_add (t := u) hrW (by omega) (by omega) xx.2 hmem2
    have hAm : ∀ y ∈ addL u x r, 0 ≤ y.f0 ∧ y.f0 ≤ u := fun y hy => by
      rcases add_mem y hy with h1 | h1
      · omega
      · exact hmem y h1
    have J1 : ∀ c, (c = true ↔ (r.length = 0 ∨ (rd_T50 r ((r.length : Int) - 1)).f0 ≠ u)) → exact_Ask.j1 (n + 2) u x r c k l w b true 0 0 0 = some (u, 0, [], addL u x r, true, l - cnt (addL u x r), 0, waitU w 0 (cnt (addL u x r)) u (addL u x r) - u) := by
      intro c hc2
      simp only [exact_Ask.j1]
      cases c with
      | true =>
        have hcc := hc2.1 rfl
        have e : addL u x r = r ++ [⟨u, x⟩] := by unfold addL; rw [if_pos hcc]
        have hlen : ((r ++ [(⟨u, 0⟩ : S50)]).length : Int) = r.length + 1 := by simp
        have hrd := rd_last r (⟨u, 0⟩ : S50)
        rw [hlen] at hrd
        have hin : (r.length : Int) + 1 - 1 = r.length := by omega
        rw [hin] at hrd
        simp only [if_true, Option.bind_some]
        rw [if_pos (by omega), hlen, hin, wr (x := (r.length : Int)) (by omega) (by omega), if_pos (by omega), if_pos (by omega), hrd]
        dsimp only
        rw [wr (x := 0 + x) (by omega) (by omega), Int.toNat_natCast]
        have e2 : (r ++ [(⟨u, 0⟩ : S50)]).set r.length ⟨u, 0 + x⟩ = addL u x r := by rw [e]; simp
        rw [e2]
        exact J2 _ _ _ _ _ hA hAm
      | false =>
        have hcc : ¬ (r.length = 0 ∨ (rd_T50 r ((r.length : Int) - 1)).f0 ≠ u) := fun h => by have := hc2.2 h; cases this
        have hpos : 0 < r.length := by omega
        have e : addL u x r = r.set (r.length - 1) ⟨(rd_T50 r ((r.length : Int) - 1)).f0, (rd_T50 r ((r.length : Int) - 1)).f1 + x⟩ := by unfold addL; rw [if_neg hcc]
        have hw := okW_rd hrW (r.length - 1) (by omega)
        rw [show ((r.length - 1 : Nat) : Int) = (r.length : Int) - 1 by omega] at hw
        simp only [Bool.false_eq_true, if_false]
        rw [wr (x := (r.length : Int) - 1) (by omega) (by omega), if_pos (by omega), if_pos (by omega), wr (x := _ + x) (by omega) (by omega)]
        have e2 : ((r.length : Int) - 1).toNat = r.length - 1 := by omega
        rw [e2, ← e]
        exact J2 _ _ _ _ _ hA hAm
    by_cases h0 : r.length = 0
    · rw [if_pos (by omega)]
      exact J1 true ⟨fun _ => Or.inl h0, fun _ => rfl⟩
    · rw [if_neg (by omega), wr (x := (r.length : Int) - 1) (by omega) (by omega), if_pos (by omega), if_pos (by omega)]
      apply J1
      rw [bne_iff_ne]
      exact ⟨fun h => Or.inr h, fun h => by rcases h with h | h; exact absurd h h0; exact h⟩
  · rw [if_neg hle, if_neg hle]
    by_cases hxl : x > l
    · rw [if_pos hxl, if_pos hxl]
      exact J2' _ _ _ _ _ hrW hmem
    · rw [if_neg hxl, if_neg hxl, wr (x := l - x) (by omega) (by omega), wait_f (by omega) hrW k l w b u (l - x) (by omega) w1 (by omega) (by omega) (fun y hy => by have := hmem y hy; omega), Option.bind_some]
      exact J2' _ _ _ _ _ hrW hmem
theorem total_f {n : Nat} (hn : 2200 ≤ n) (k l w b a v : Int) (s : List Int) (h : List S50) (t : Int) (hh : h.length ≤ 900) : exact_Total.f n k l w b a v s h t = some (if mayF k l w b a v s h && timeF t then cnt (since (mx t a - w) h) else 0) := by
  obtain ⟨n, rfl⟩ : ∃ m, n = m + 1 := ⟨n - 1, by omega⟩
  unfold exact_Total.f
  rw [may_f (by omega) _ _ _ _ _ _ _ _ (by omega), Option.bind_some, time_f]
  cases hm : mayF k l w b a v s h
  · simp [exact_Total.j0]
  cases ht : timeF t
  · simp [exact_Total.j0]
  obtain ⟨hk, l0, l1, w0, w1, a0, a1, hv, hs, ho, hc⟩ := may_is hm
  have tt := time_is.1 ht
  have mm := mx_le t a
  have hW := okL_W l1 ho (by omega)
  simp only [if_true, Option.bind_some, Bool.not_true, Bool.and_self, exact_Total.j0, Bool.false_eq_true, if_false]
  rw [since_f (by omega) k l w b (by omega) _ (by omega), Option.bind_some, count_f (by omega) (okW_since hW), Option.bind_some]
def ends (k l w b a v : Int) (s : List Int) (h : List S50) : Int := if mayF k l w b a v s h then waitU w 0 (cnt h) a h else 0
theorem waitU_bd {w most : Int} (hw : 0 ≤ w) : ∀ (h : List S50) (n u : Int), (0 ≤ u ∧ u ≤ 1099512676352) → (∀ x ∈ h, 0 ≤ x.f0 ∧ x.f0 + w ≤ 1099512676352) → 0 ≤ waitU w most n u h ∧ waitU w most n u h ≤ 1099512676352 := by
  intro h
  induction h with
  | nil => intro n u hu _; exact hu
  | cons x t ih =>
    intro n u hu hx
    simp only [waitU]
    split
    · exact hu
    · have := hx x (by simp)
      exact ih _ _ (by omega) (fun y hy => hx y (by simp [hy]))
theorem ends_f {n : Nat} (hn : 2200 ≤ n) (k l w b a v : Int) (s : List Int) (h : List S50) (hh : h.length ≤ 900) : exact_Ends.f n k l w b a v s h = some (ends k l w b a v s h) := by
  unfold exact_Ends.f ends
  rw [may_f (by omega) _ _ _ _ _ _ _ _ (by omega), Option.bind_some]
  cases hm : mayF k l w b a v s h
  · simp
  obtain ⟨hk, l0, l1, w0, w1, a0, a1, hv, hs, ho, hc⟩ := may_is hm
  have hW := okL_W l1 ho (by omega)
  have hmem : ∀ y ∈ h, 0 ≤ y.f0 ∧ y.f0 ≤ 1099511627776 := fun y hy => by
    have q := okL_mem ho y hy
    have := mx_le (-1) (a - w)
    omega
  have wb := waitU_bd (w := w) (most := 0) (by omega) h (cnt h) a (by omega) (fun y hy => by have := hmem y hy; omega)
  simp only [if_true]
  rw [wait_f (by omega) hW k l w b a 0 (by omega) w1 a0 a1 hmem, Option.bind_some, show a + (waitU w 0 (cnt h) a h - a) = waitU w 0 (cnt h) a h by omega, wr (by omega) (by omega)]
end Go.Proofs.Ytempbjcmhillgaa.La


namespace Go.Proofs.Ytempbjcmhillgaa.La
open Go.RowKit Go.Proofs.YtempbjcmhillgaaW.PrintWords Go.Proofs.YtempbjcmhillgaaW.PrintLast Go.Proofs.YtempbjcmhillgaaW.PrintMore Go.Proofs.Ytempbjcmhillgaa.Q
set_option linter.unusedSimpArgs false
set_option linter.unusedVariables false
theorem refCheck (k : Nat) (a b c d : Int) : sandglassref09_Check.f (k + 3) a b c d = some (if polOk a b c d = true then 0 else 1) := by
  unfold sandglassref09_Check.f polOk withinB
  by_cases h1 : a < 1
  · rw [if_pos h1]; simp [sandglassref09_Check.j0, show ¬ 1 ≤ a by omega]
  rw [if_neg h1]
  by_cases h2 : a > 4
  · rw [if_pos h2]; simp [sandglassref09_Check.j0, show ¬ a ≤ 4 by omega]
  rw [if_neg h2]
  by_cases h3 : b < 1
  · rw [if_pos h3]; simp [sandglassref09_Check.j0, show ¬ 1 ≤ b by omega]
  rw [if_neg h3]
  by_cases h4 : b > 1048576
  · rw [if_pos h4]; simp [sandglassref09_Check.j0, show ¬ b ≤ 1048576 by omega]
  rw [if_neg h4]
  by_cases h5 : c < 1
  · rw [if_pos h5]; simp [sandglassref09_Check.j0, show ¬ 1 ≤ c by omega]
  rw [if_neg h5]
  have e : ∀ (p : Int) (q : Int), (¬ p < q) → decide (q ≤ p) = true := fun p q h => by simp; omega
  have e' : ∀ (p : Int) (q : Int), (¬ p > q) → decide (p ≤ q) = true := fun p q h => by simp; omega
  by_cases h6 : c > 1048576
  · simp [sandglassref09_Check.j0, h6, show ¬ c ≤ 1048576 by omega]
  have h6' : decide (c > 1048576) = false := by simp; omega
  rw [h6', e _ _ h1, e' _ _ h2, e _ _ h3, e' _ _ h4, e _ _ h5, e' _ _ h6]
  simp only [sandglassref09_Check.j0, Bool.false_eq_true, if_false, Bool.and_self, Bool.true_and]
  by_cases h7 : a = 4
  · subst h7
    simp only [if_true, sandglassref09_Check.j1, show ¬ ((4 : Int) = 3) by omega, if_false, exactB]
    by_cases h8 : b > 16
    · simp [h8, show ¬ b ≤ 16 by omega]
    · by_cases h9 : d = 0 <;> simp [h8, h9, show b ≤ 16 by omega]
  · rw [if_neg h7]
    simp only [sandglassref09_Check.j1, Bool.false_eq_true, if_false]
    by_cases h8 : a = 3
    · rw [if_pos h8, if_pos h8]
      unfold ringB withinB
      by_cases h9 : d < 1
      · simp [h9, show ¬ 1 ≤ d by omega, sandglassref09_Check.j2]
      · by_cases h10 : d > 16
        · simp [h9, h10, show ¬ d ≤ 16 by omega, sandglassref09_Check.j2]
        · by_cases h11 : Int.tmod c d = 0 <;> simp [h9, h10, h11, show 1 ≤ d by omega, show d ≤ 16 by omega, show ¬ d = 0 by omega, sandglassref09_Check.j2]
    · rw [if_neg h8, if_neg h8, if_neg h7]
      by_cases h9 : d = 0 <;> simp [h9]
theorem time_r (t : Int) : sandglassref10_Time.f t = some (timeF t) := by
  unfold sandglassref10_Time.f timeF; by_cases h : t ≥ 0 <;> simp [h, show (0 ≤ t) = (t ≥ 0) from rfl]
theorem weigh_r (t : Int) : sandglassref09_Weighs.f t = some (weighF t) := by
  unfold sandglassref09_Weighs.f weighF; by_cases h : t ≥ 1 <;> simp [h, show (1 ≤ t) = (t ≥ 1) from rfl]
/-- A cell is the same as itself. -/
theorem same_l1 (n : Nat) (c1 c2 d1 d2 : Int) (s s' : List Int) (h : List S50) (d : Nat) : ∀ (i : Int), 0 ≤ i → (h.length : Int) - i ≤ d → h.length ≤ 100 → d < n → sandglassref10_Same.l1 n i c1 c2 s h d1 d2 s' h = some true := by
  induction n generalizing d with
  | zero => intro i _ _ _ hd; omega
  | succ n ih =>
    intro i h0 h1 h2 hd
    simp only [sandglassref10_Same.l1]
    by_cases h3 : i < (h.length : Int)
    · rw [if_pos h3, if_pos h0, if_pos h3]
      simp only [BEq.rfl, Bool.not_true, Bool.or_self, Bool.false_eq_true, if_false]
      rw [wr (by omega) (by omega)]
      exact ih (d - 1) (i + 1) (by omega) (by omega) h2 (by omega)
    · rw [if_neg h3]
theorem same_l0 (n : Nat) (c1 c2 d1 d2 : Int) (s : List Int) (h : List S50) (d : Nat) : ∀ (i : Int), 0 ≤ i → (s.length : Int) - i ≤ d → s.length ≤ 40 → h.length ≤ 100 → d + 102 < n → sandglassref10_Same.l0 n i c1 c2 s h d1 d2 s h = some true := by
  induction n generalizing d with
  | zero => intro i _ _ _ _ hd; omega
  | succ n ih =>
    intro i h0 h1 h2 h2' hd
    simp only [sandglassref10_Same.l0]
    by_cases h3 : i < (s.length : Int)
    · rw [if_pos h3, if_pos h0, if_pos h3, if_pos trivial, wr (by omega) (by omega)]
      exact ih (d - 1) (i + 1) (by omega) (by omega) h2 h2' (by omega)
    · rw [if_neg h3]
      exact same_l1 n c1 c2 d1 d2 s s h 100 0 (by omega) (by omega) h2' (by omega)
theorem same_refl (n : Nat) (a v : Int) (s : List Int) (h : List S50) (hs : s.length ≤ 40) (hh : h.length ≤ 100) : sandglassref10_Same.f (n + 200) a v s h a v s h = some true := by
  unfold sandglassref10_Same.f
  rw [if_pos rfl, if_pos rfl, if_pos rfl, show n + 200 = (n + 199) + 1 by omega]
  simp only [sandglassref10_Same.j0, bne_self_eq_false, Bool.false_eq_true, if_false]
  exact same_l0 _ _ _ _ _ _ _ 40 0 (by omega) (by omega) hs hh (by omega)
theorem few_f (a v : Int) (s : List Int) (h : List S50) : sandglassref10_Few.f a v s h = some (decide (s.length ≤ 40) && decide (h.length ≤ 40)) := by
  unfold sandglassref10_Few.f
  by_cases h1 : (s.length : Int) ≤ 40
  · have : s.length ≤ 40 := by omega
    rw [if_pos h1]; simp [this]; omega
  · have : ¬ s.length ≤ 40 := by omega
    rw [if_neg h1]; simp [this]
theorem same_refl' {n : Nat} (hn : 200 ≤ n) (a v : Int) (s : List Int) (h : List S50) (hs : s.length ≤ 40) (hh : h.length ≤ 100) : sandglassref10_Same.f n a v s h a v s h = some true := by
  obtain ⟨m, rfl⟩ : ∃ m, n = m + 200 := ⟨n - 200, by omega⟩
  exact same_refl _ _ _ _ _ hs hh
theorem live_ok : sandglasslaw13_live.f 40 = some true := by decide +kernel
theorem live_up (n : Nat) : sandglasslaw13_live.f (40 + n) = some true := by
  induction n with
  | zero => exact live_ok
  | succ n ih => exact sandglasslaw13_live.mono (40 + n) _ ih
theorem live_at {n : Nat} (h : 40 ≤ n) : sandglasslaw13_live.f n = some true := by
  have := live_up (n - 40)
  rwa [show 40 + (n - 40) = n by omega] at this
/-- What is behind, as the reference looks at it. -/
def lastAt (a w : Int) (L : List S50) (i : Nat) : Int := if i = 0 then mx (-1) (a - w) else (rd_T50 L ((i : Int) - 1)).f0
theorem mayr_l0 (L : List S50) (hL : L.length ≤ 1000) (k l w b a v : Int) (s : List Int) (hl : l ≤ 16) (hw0 : 0 ≤ w) (hw1 : w ≤ 1048576) (ha0 : 0 ≤ a) (ha1 : a ≤ 1099511627776) (N : Nat) : ∀ (d i : Nat) (n : Int), L.length - i = d → i ≤ L.length → 2 * d < N → 0 ≤ n → n ≤ 16 * i → mx (-1) (a - w) ≤ lastAt a w L i →
    sandglassref13_May.l0 N n (i : Int) k l w b a v s L = some (okL l a (lastAt a w L i) (L.drop i) && decide (n + cnt (L.drop i) ≤ l)) := by
  induction N using Nat.strongRecOn with
  | _ N ih =>
    intro d i n hd hi hN n0 n1 hla
    obtain ⟨M, rfl⟩ : ∃ M, N = M + 1 := ⟨N - 1, by omega⟩
    have hm := mx_le (-1) (a - w)
    simp only [sandglassref13_May.l0]
    by_cases hlt : (i : Int) < (L.length : Int)
    · obtain ⟨P, rfl⟩ : ∃ P, M = P + 1 := ⟨M - 1, by omega⟩
      rw [if_pos hlt, if_pos (by omega), rd_drop L i (by omega)]
      have hnext : lastAt a w L (i + 1) = (rd_T50 L (i : Int)).f0 := by
        unfold lastAt
        rw [if_neg (by omega), show ((i + 1 : Nat) : Int) - 1 = (i : Int) by omega]
      generalize hh : rd_T50 L (i : Int) = h at *
      generalize hlast : lastAt a w L i = last at *
      have F : ∀ x1 x2, sandglassref13_May.j2 (P + 1) n (i : Int) true k l w b a v s L x1 x2 = some false := by intros; simp [sandglassref13_May.j2]
      rw [wr (x := a - w) (by omega) (by omega)]
      by_cases c1 : h.f0 < 0
      · rw [if_pos c1, F]; simp [okL, show ¬ last < h.f0 by omega]
      rw [if_neg c1]
      by_cases c2 : h.f0 > a
      · rw [if_pos c2, F]; simp [okL, show ¬ h.f0 ≤ a by omega]
      rw [if_neg c2]
      by_cases c3 : h.f0 ≤ a - w
      · rw [if_pos c3, F]; simp [okL, show ¬ last < h.f0 by omega]
      rw [if_neg c3]
      have W : ∀ (hlo : last < h.f0), (if h.f1 < 1 then sandglassref13_May.j2 (P + 1) n (i : Int) true k l w b a v s L h.f0 h.f1 else sandglassref13_May.j2 (P + 1) n (i : Int) (decide (h.f1 > l)) k l w b a v s L h.f0 h.f1) = some (okL l a last (h :: L.drop (i + 1)) && decide (n + cnt (h :: L.drop (i + 1)) ≤ l)) := by
        intro hlo
        by_cases c4 : h.f1 < 1
        · rw [if_pos c4, F]; simp [okL, show ¬ 1 ≤ h.f1 by omega]
        rw [if_neg c4]
        by_cases c5 : h.f1 > l
        · rw [decide_eq_true c5, F]; simp [okL, show ¬ h.f1 ≤ l by omega]
        rw [decide_eq_false c5]
        simp only [sandglassref13_May.j2, Bool.false_eq_true, if_false]
        rw [wr (x := n + h.f1) (by omega) (by omega), wr (x := (i : Int) + 1) (by omega) (by omega), show (i : Int) + 1 = ((i + 1 : Nat) : Int) by omega, ih P (by omega) (d - 1) (i + 1) _ (by omega) (by omega) (by omega) (by omega) (by omega) (by omega), hnext]
        simp only [okL, cnt, decide_eq_true hlo, decide_eq_true (show h.f0 ≤ a by omega), decide_eq_true (show 1 ≤ h.f1 by omega), decide_eq_true (show h.f1 ≤ l by omega), Bool.true_and]
        exact congrArg (fun q => some (okL l a h.f0 (List.drop (i + 1) L) && q)) (decide_eq_decide.2 (by omega))
      by_cases hi0 : (i : Int) > 0
      · have hprev : (rd_T50 L ((i : Int) - 1)).f0 = last := by
          rw [← hlast]; unfold lastAt; rw [if_neg (by omega)]
        rw [if_pos hi0, wr (x := (i : Int) - 1) (by omega) (by omega), if_pos (by omega), if_pos (by omega), hprev]
        by_cases c6 : last ≥ h.f0
        · rw [if_pos c6, F]; simp [okL, show ¬ last < h.f0 by omega]
        · rw [if_neg c6]; exact W (by omega)
      · rw [if_neg hi0]
        have : last = mx (-1) (a - w) := by rw [← hlast]; unfold lastAt; rw [if_pos (by omega)]
        exact W (by omega)
    · rw [if_neg hlt, List.drop_eq_nil_of_le (by omega)]; simp [okL, cnt]
theorem may_r {n : Nat} (hn : 2100 ≤ n) (k l w b a v : Int) (s : List Int) (h : List S50) (hh : h.length ≤ 1000) : sandglassref13_May.f n k l w b a v s h = some (mayF k l w b a v s h) := by
  obtain ⟨n, rfl⟩ : ∃ m, n = m + 3 := ⟨n - 3, by omega⟩
  unfold sandglassref13_May.f mayF
  simp only [Option.bind_some, time_r, refCheck]
  cases hp : polOk k l w b
  · simp [sandglassref13_May.j0]
  · have q := pol_is hp
    by_cases h1 : k = 4
    · cases h2 : timeF a
      · simp [h1, sandglassref13_May.j0]
      · have ha := time_is.1 h2
        by_cases h3 : v = 0
        · by_cases h4 : s.length = 0
          · have e : ((s.length : Int) != 0) = false := by simp [h4]
            simp only [h1, h3, e, if_true, sandglassref13_May.j0, Bool.false_eq_true, if_false]
            have := mayr_l0 h hh 4 l w b a 0 s (q.2.2.2.2 h1) (by omega) (by omega) ha.1 ha.2 (n + 2) h.length 0 0 (by omega) (by omega) (by omega) (by omega) (by omega) (by unfold lastAt; rw [if_pos rfl]; omega)
            rw [show ((0 : Nat) : Int) = 0 from rfl] at this
            rw [this]; simp [h4, lastAt]
          · have e : ((s.length : Int) != 0) = true := by rw [bne_iff_ne]; omega
            simp [h1, h3, e, h4, sandglassref13_May.j0]
        · simp [h1, h3, sandglassref13_May.j0]
    · simp [h1, sandglassref13_May.j0]
theorem i64_is {v : Int} (h : (Lit.int .i64 v).wf = true) : -9223372036854775808 ≤ v ∧ v ≤ 9223372036854775807 := by
  simp [Lit.wf, IntKind.min, IntKind.max, IntKind.signed, IntKind.bits] at h
  omega
theorem ask_is {k l w b a v : Int} {s : List Int} {h : List S50} (hm : mayF k l w b a v s h = true) {t x : Int} (ht : timeF t = true) (hx : weighF x = true) : askV k l w b a v s h t x = askF l w a h t x := by
  unfold askV; rw [hm, ht, hx]; rfl
end Go.Proofs.Ytempbjcmhillgaa.La


namespace Go.Proofs.Ytempbjcmhillgaa.La
open Go.RowKit Go.Proofs.YtempbjcmhillgaaW.PrintWords Go.Proofs.YtempbjcmhillgaaW.PrintLast Go.Proofs.YtempbjcmhillgaaW.PrintMore Go.Proofs.Ytempbjcmhillgaa.Q
set_option linter.unusedSimpArgs false
set_option linter.unusedVariables false
theorem since_nil (c : Int) : since c [] = [] := rfl
theorem since_cons_le {c : Int} {x : S50} {t : List S50} (h : x.f0 ≤ c) : since c (x :: t) = since c t := by unfold since; rw [List.dropWhile_cons_of_pos (by simpa using h)]
theorem since_cons_gt {c : Int} {x : S50} {t : List S50} (h : c < x.f0) : since c (x :: t) = x :: t := by unfold since; rw [List.dropWhile_cons_of_neg (by simp; omega)]
theorem since_id {c : Int} {l : List S50} (h : ∀ x ∈ l, c < x.f0) : since c l = l := by
  cases l with
  | nil => rfl
  | cons x t => exact since_cons_gt (h x (by simp))
theorem since_none {c : Int} {l : List S50} (h : ∀ x ∈ l, x.f0 ≤ c) : since c l = [] := by
  induction l with
  | nil => rfl
  | cons x t ih => rw [since_cons_le (h x (by simp))]; exact ih (fun y hy => h y (by simp [hy]))
theorem since_mem {c : Int} {l : List S50} {y : S50} (hy : y ∈ l) (h : c < y.f0) : y ∈ since c l := by
  induction l with
  | nil => cases hy
  | cons x t ih =>
    by_cases hx : x.f0 ≤ c
    · rw [since_cons_le hx]
      rcases List.mem_cons.1 hy with rfl | hy
      · omega
      · exact ih hy
    · rw [since_cons_gt (by omega)]; exact hy
theorem cnt_nonneg {l : List S50} (h : ∀ x ∈ l, 1 ≤ x.f1) : 0 ≤ cnt l := by
  induction l with
  | nil => simp [cnt]
  | cons x t ih => have := h x (by simp); have := ih (fun y hy => h y (by simp [hy])); simp only [cnt]; omega
theorem cnt_mem {l : List S50} (h : ∀ x ∈ l, 1 ≤ x.f1) {y : S50} (hy : y ∈ l) : y.f1 ≤ cnt l := by
  induction l with
  | nil => cases hy
  | cons x t ih =>
    have h0 := cnt_nonneg (fun z hz => h z (by simp [hz]) : ∀ z ∈ t, 1 ≤ z.f1)
    have hx := h x (by simp)
    simp only [cnt]
    rcases List.mem_cons.1 hy with rfl | hy
    · omega
    · have := ih (fun z hz => h z (by simp [hz])) hy; omega
theorem cnt_len {l : List S50} (h : ∀ x ∈ l, 1 ≤ x.f1) : (l.length : Int) ≤ cnt l := by
  induction l with
  | nil => simp [cnt]
  | cons x t ih => have := h x (by simp); have := ih (fun y hy => h y (by simp [hy])); simp only [cnt, List.length_cons]; omega
theorem cnt_zero {l : List S50} (h : ∀ x ∈ l, 1 ≤ x.f1) (h0 : cnt l ≤ 0) : l = [] := by
  have := cnt_len h
  exact List.length_eq_zero_iff.1 (by omega)
theorem since_cnt {lim a last c : Int} {h : List S50} (ho : okL lim a last h = true) : cnt (since c h) ≤ cnt h := by
  induction h generalizing last with
  | nil => exact Int.le_refl _
  | cons x t ih =>
    have q := okL_cons.1 ho
    by_cases hx : x.f0 ≤ c
    · rw [since_cons_le hx]
      have := ih q.2.2.2.2
      simp only [cnt]; omega
    · rw [since_cons_gt (by omega)]; exact Int.le_refl _
/-- The tick of the last hit. -/
def lt (last : Int) : List S50 → Int
  | [] => last
  | h :: t => lt h.f0 t
theorem okL_append {lim a : Int} : ∀ {last : Int} {m n : List S50}, okL lim a last (m ++ n) = (okL lim a last m && okL lim a (lt last m) n) := by
  intro last m
  induction m generalizing last with
  | nil => intro n; simp [okL, lt]
  | cons x t ih => intro n; simp only [List.cons_append, okL, lt, ih, Bool.and_assoc]
theorem okL_add {lim u last x : Int} {r : List S50} (h : okL lim u last r = true) (hl : last < u) (hc : cnt r + x ≤ lim) (hx : 1 ≤ x) : okL lim u last (addL u x r) = true := by
  have hm := okL_mem h
  have h1 : ∀ z ∈ r, 1 ≤ z.f1 := fun z hz => (hm z hz).2.2.1
  have h0 := cnt_nonneg h1
  rcases snoc_cases r with rfl | ⟨m, y, rfl⟩
  · rw [addL_nil]
    exact okL_cons.2 ⟨hl, Int.le_refl _, hx, by simp [cnt] at hc; exact hc, rfl⟩
  · have hy := hm y (by simp)
    have hcm : cnt (m ++ [y]) = cnt m + y.f1 := by rw [cnt_append]; simp [cnt]
    have hm0 := cnt_nonneg (fun z hz => h1 z (by simp [hz]) : ∀ z ∈ m, 1 ≤ z.f1)
    rw [okL_append, Bool.and_eq_true] at h
    have hy2 := okL_cons.1 h.2
    rw [addL_snoc]
    split
    · rename_i he
      rw [okL_append, Bool.and_eq_true]
      exact ⟨h.1, okL_cons.2 ⟨by dsimp only; omega, Int.le_refl _, by dsimp only; omega, by dsimp only; omega, rfl⟩⟩
    · rename_i he
      rw [okL_append, Bool.and_eq_true]
      exact ⟨h.1, okL_cons.2 ⟨hy2.1, hy2.2.1, hy2.2.2.1, hy2.2.2.2.1, okL_cons.2 ⟨by dsimp only; omega, Int.le_refl _, hx, by dsimp only; omega, rfl⟩⟩⟩
theorem addL_twice (u x y : Int) (r : List S50) : addL u y (addL u x r) = addL u (x + y) r := by
  rcases snoc_cases r with rfl | ⟨m, z, rfl⟩
  · rw [addL_nil, addL_nil]
    have := addL_snoc u y [] ⟨u, x⟩
    simpa using this
  · rw [addL_snoc, addL_snoc]
    split
    · rename_i he
      rw [addL_snoc]; simp [Int.add_assoc]
    · rename_i he
      have := addL_snoc u y (m ++ [z]) ⟨u, x⟩
      simp at this
      simpa using this
theorem addL_ne (u x : Int) (r : List S50) : addL u x r ≠ [] := by
  rcases snoc_cases r with rfl | ⟨m, z, rfl⟩
  · rw [addL_nil]; simp
  · rw [addL_snoc]; split <;> simp
/-- What an asking answers of the hits that still count. -/
def askR (l w u : Int) (r : List S50) (x : Int) : Int × Int × List Int × List S50 × Bool × Int × Int × Int :=
  if cnt r + x ≤ l then (u, 0, [], addL u x r, true, l - cnt (addL u x r), 0, waitU w 0 (cnt (addL u x r)) u (addL u x r) - u)
  else (u, 0, [], r, false, l - cnt r, if x > l then 2199023255552 else waitU w (l - x) (cnt r) u r - u, waitU w 0 (cnt r) u r - u)
theorem askF_R (l w a : Int) (h : List S50) (t x : Int) : askF l w a h t x = askR l w (mx t a) (since (mx t a - w) h) x := rfl
theorem askR_pos {l w u x : Int} {r : List S50} (hc : cnt r + x ≤ l) : askR l w u r x = (u, 0, [], addL u x r, true, l - cnt (addL u x r), 0, waitU w 0 (cnt (addL u x r)) u (addL u x r) - u) := if_pos hc
theorem askR_neg {l w u x : Int} {r : List S50} (hc : ¬ cnt r + x ≤ l) : askR l w u r x = (u, 0, [], r, false, l - cnt r, if x > l then 2199023255552 else waitU w (l - x) (cnt r) u r - u, waitU w 0 (cnt r) u r - u) := if_neg hc
/-- When nothing counts any more. -/
theorem waitU_end {lim a w : Int} : ∀ {last u : Int} {h : List S50}, okL lim a last h = true → h ≠ [] → ∃ y ∈ h, waitU w 0 (cnt h) u h = y.f0 + w ∧ ∀ x ∈ h, x.f0 ≤ y.f0 := by
  intro last u h
  induction h generalizing last u with
  | nil => intro _ hn; exact absurd rfl hn
  | cons x t ih =>
    intro ho _
    have q := okL_cons.1 ho
    have hm := okL_mem q.2.2.2.2
    have h0 := cnt_nonneg (fun z hz => (hm z hz).2.2.1 : ∀ z ∈ t, 1 ≤ z.f1)
    rw [waitU, if_neg (show ¬ cnt (x :: t) ≤ 0 by simp only [cnt]; omega), show cnt (x :: t) - x.f1 = cnt t by simp only [cnt]; omega]
    by_cases ht : t = []
    · subst ht
      exact ⟨x, by simp, rfl, fun z hz => by simp at hz; rw [hz]; exact Int.le_refl _⟩
    · obtain ⟨y, hy, he, hx⟩ := ih (u := x.f0 + w) q.2.2.2.2 ht
      refine ⟨y, by simp [hy], he, fun z hz => ?_⟩
      rcases List.mem_cons.1 hz with rfl | hz
      · have := hm y hy; omega
      · exact hx z hz
/-- When so much fits. -/
theorem waitU_mid {lim a w most : Int} : ∀ {last u : Int} {h : List S50}, okL lim a last h = true → most < cnt h → 0 ≤ most → ∃ y ∈ h, waitU w most (cnt h) u h = y.f0 + w ∧ cnt (since y.f0 h) ≤ most ∧ most < cnt (since (y.f0 - 1) h) := by
  intro last u h
  induction h generalizing last u with
  | nil => intro _ hn h0; simp [cnt] at hn; omega
  | cons x t ih =>
    intro ho hc h0
    have q := okL_cons.1 ho
    have hm := okL_mem q.2.2.2.2
    have hc2 : most < x.f1 + cnt t := by simpa only [cnt] using hc
    rw [waitU, if_neg (show ¬ cnt (x :: t) ≤ most by omega), show cnt (x :: t) - x.f1 = cnt t by simp only [cnt]; omega]
    by_cases ht : cnt t ≤ most
    · refine ⟨x, by simp, ?_, ?_, ?_⟩
      · cases t with
        | nil => rfl
        | cons z t => simp only [waitU]; rw [if_pos ht]
      · rw [since_cons_le (Int.le_refl _), since_id (fun z hz => (hm z hz).1)]; exact ht
      · rw [since_cons_gt (by omega)]; exact hc
    · obtain ⟨y, hy, he, h1, h2⟩ := ih (u := x.f0 + w) q.2.2.2.2 (by omega) h0
      have := hm y hy
      exact ⟨y, by simp [hy], he, by rw [since_cons_le (by omega)]; exact h1, by rw [since_cons_le (by omega)]; exact h2⟩
end Go.Proofs.Ytempbjcmhillgaa.La


namespace Go.Proofs.Ytempbjcmhillgaa.La
open Go.RowKit Go.Proofs.YtempbjcmhillgaaW.PrintWords Go.Proofs.YtempbjcmhillgaaW.PrintLast Go.Proofs.YtempbjcmhillgaaW.PrintMore Go.Proofs.Ytempbjcmhillgaa.Q
set_option linter.unusedSimpArgs false
set_option linter.unusedVariables false
def behind (c : Int) (l : List S50) : List S50 := l.filter fun h => decide (h.f0 > c)
theorem behind_cons (c : Int) (x : S50) (t : List S50) : behind c (x :: t) = if x.f0 > c then x :: behind c t else behind c t := by
  unfold behind
  rw [List.filter_cons]
  by_cases h : x.f0 > c
  · simp [h]
  · simp [h]
theorem behind_id {c : Int} {l : List S50} (h : ∀ x ∈ l, c < x.f0) : behind c l = l := by
  unfold behind
  exact List.filter_eq_self.2 (fun x hx => by have := h x hx; simp; omega)
theorem behind_since {lim a c : Int} : ∀ {last : Int} {l : List S50}, okL lim a last l = true → behind c l = since c l := by
  intro last l
  induction l generalizing last with
  | nil => intro _; rfl
  | cons x t ih =>
    intro ho
    have q := okL_cons.1 ho
    have hm := okL_mem q.2.2.2.2
    rw [behind_cons]
    by_cases hx : x.f0 > c
    · rw [if_pos hx, since_cons_gt (by omega), behind_id (fun z hz => by have := hm z hz; omega)]
    · rw [if_neg hx, since_cons_le (by omega), ih q.2.2.2.2]
theorem counts_l0 (l : List S50) (h : okW l) (t k p w b : Int) (hc : -9223372036854775808 ≤ t - w ∧ t - w < 9223372036854775808) (N : Nat) : ∀ (d i : Nat) (n : Int), l.length - i = d → i ≤ l.length → d < N → 0 ≤ n → n ≤ 4194304 * i → sandglassref13_counts.l0 N l t n (i : Int) k p w b = some (n + cnt (behind (t - w) (l.drop i))) := by
  induction N with
  | zero => intro d i n _ _ hd; omega
  | succ N ih =>
    intro d i n hd hi hN n0 n1
    have hl := h.1
    simp only [sandglassref13_counts.l0]
    by_cases hlt : (i : Int) < (l.length : Int)
    · have hw := okW_rd h i (by omega)
      rw [if_pos hlt, if_pos (by omega), wr (x := t - w) hc.1 hc.2, wr (x := n + _) (by omega) (by omega), wr (x := (i : Int) + 1) (by omega) (by omega), show (i : Int) + 1 = ((i + 1 : Nat) : Int) by omega, rd_drop l i (by omega), behind_cons]
      by_cases hg : (rd_T50 l (i : Int)).f0 > t - w
      · rw [if_pos hg, if_pos hg, ih (d - 1) (i + 1) _ (by omega) (by omega) (by omega) (by omega) (by omega)]
        simp only [cnt]; congr 1; omega
      · rw [if_neg hg, if_neg hg, ih (d - 1) (i + 1) _ (by omega) (by omega) (by omega) (by omega) (by omega)]
    · rw [if_neg hlt, List.drop_eq_nil_of_le (by omega)]; simp [behind, cnt]
theorem counts_f {n : Nat} (hn : 1100 ≤ n) {l : List S50} (h : okW l) (t k p w b : Int) (hc : -9223372036854775808 ≤ t - w ∧ t - w < 9223372036854775808) : sandglassref13_counts.f n k p w b l t = some (cnt (behind (t - w) l)) := by
  have hl := h.1
  unfold sandglassref13_counts.f
  have := counts_l0 l h t k p w b hc n l.length 0 0 (by omega) (by omega) (by omega) (by omega) (by omega)
  simpa using this
/-- From a hit's own tick on, what stands behind it counts. -/
theorem since_at {lim a : Int} : ∀ {last : Int} {L : List S50} {i : Nat} {x : S50} {tl : List S50}, okL lim a last L = true → L.drop i = x :: tl → since x.f0 L = tl := by
  intro last L
  induction L generalizing last with
  | nil => intro i x tl _ h; simp at h
  | cons y t ih =>
    intro i x tl ho h
    have q := okL_cons.1 ho
    have hm := okL_mem q.2.2.2.2
    cases i with
    | zero =>
      simp only [List.drop_zero, List.cons.injEq] at h
      obtain ⟨rfl, rfl⟩ := h
      rw [since_cons_le (Int.le_refl _), since_id (fun z hz => (hm z hz).1)]
    | succ i =>
      rw [List.drop_succ_cons] at h
      have hin : x ∈ t := List.mem_of_mem_drop (i := i) (by rw [h]; simp)
      have := hm x hin
      rw [since_cons_le (by omega)]
      exact ih q.2.2.2.2 h
theorem wait_r0 {lim a last : Int} {L : List S50} (ho : okL lim a last L = true) (hW : okW L) (k p w b t most : Int) (w0 : 0 ≤ w) (w1 : w ≤ 1048576) (t0 : 0 ≤ t) (t1 : t ≤ 1099511627776) (h0 : 0 ≤ most) (ht : ∀ x ∈ L, t - w < x.f0 ∧ 0 ≤ x.f0 ∧ x.f0 ≤ 1099511627776) (N : Nat) :
    ∀ (rest : List S50) (i : Nat) (u : Int), L.drop i = rest → i ≤ L.length → 1100 + 2 * rest.length ≤ N → most < cnt rest → sandglassref13_wait.l0 N L t most (i : Int) k p w b = some (waitU w most (cnt rest) u rest - t) := by
  induction N using Nat.strongRecOn with
  | ind N ih =>
  intro rest i u hr hi hN hc
  have hl := hW.1
  cases rest with
  | nil => simp only [cnt] at hc; omega
  | cons x tl =>
    have hlen : (L.drop i).length = tl.length + 1 := by rw [hr]; rfl
    rw [List.length_drop] at hlen
    obtain ⟨M, rfl⟩ : ∃ M, N = M + 2 := ⟨N - 2, by simp only [List.length_cons] at hN; omega⟩
    have hx : rd_T50 L (i : Int) = x := by
      have := rd_drop L i (by omega)
      rw [hr] at this
      exact (List.cons.inj this).1.symm
    have htl : L.drop (i + 1) = tl := by
      have := rd_drop L i (by omega)
      rw [hr] at this
      exact (List.cons.inj this).2.symm
    have hin : x ∈ L := List.mem_of_mem_drop (i := i) (by rw [hr]; simp)
    have hxx := ht x hin
    have hcn : cnt (x :: tl) - x.f1 = cnt tl := by simp only [cnt]; omega
    have hU : waitU w most (cnt (x :: tl)) u (x :: tl) = waitU w most (cnt tl) (x.f0 + w) tl := by
      rw [waitU, if_neg (by omega), hcn]
    rw [hU, show M + 2 = (M + 1) + 1 from rfl, sandglassref13_wait.l0, if_pos (by omega), if_pos (by omega), hx, wr (x := x.f0 + w) (by omega) (by omega), counts_f (by simp only [List.length_cons] at hN; omega) hW (x.f0 + w) k p w b (by omega), Option.bind_some, show x.f0 + w - w = x.f0 by omega, behind_since ho, since_at ho hr]
    by_cases hle : cnt tl ≤ most
    · rw [if_pos hle, decide_eq_true (by omega), sandglassref13_wait.j1, if_pos rfl, if_pos (by omega), if_pos (by omega), hx, wr (x := x.f0 + w) (by omega) (by omega), wr (x := x.f0 + w - t) (by omega) (by omega)]
      cases tl with
      | nil => rfl
      | cons y tl => rw [waitU, if_pos hle]
    · rw [if_neg hle, sandglassref13_wait.j1, if_neg (by simp), wr (x := (i : Int) + 1) (by omega) (by omega), show (i : Int) + 1 = ((i + 1 : Nat) : Int) by omega]
      exact ih M (by omega) tl (i + 1) (x.f0 + w) htl (by omega) (by simp only [List.length_cons] at hN; omega) (by omega)
theorem wait_r {n : Nat} (hn : 3200 ≤ n) {lim a last : Int} {L : List S50} (ho : okL lim a last L = true) (hW : okW L) (k p w b t most : Int) (w0 : 0 ≤ w) (w1 : w ≤ 1048576) (t0 : 0 ≤ t) (t1 : t ≤ 1099511627776) (h0 : 0 ≤ most) (ht : ∀ x ∈ L, t - w < x.f0 ∧ 0 ≤ x.f0 ∧ x.f0 ≤ 1099511627776) : sandglassref13_wait.f n k p w b L t most = some (waitU w most (cnt L) t L - t) := by
  have hl := hW.1
  unfold sandglassref13_wait.f
  rw [counts_f (by omega) hW t k p w b (by omega), Option.bind_some, behind_id (fun x hx => (ht x hx).1)]
  by_cases hle : cnt L ≤ most
  · rw [if_pos hle]
    cases L with
    | nil => simp [waitU]
    | cons x tl => rw [waitU, if_pos hle, Int.sub_self]
  · rw [if_neg hle]
    exact wait_r0 ho hW k p w b t most w0 w1 t0 t1 h0 ht n L 0 t rfl (by omega) (by omega) (by omega)
theorem short8 {n : Nat} (h : n ≤ 1000) : n < 8796093022208 := Nat.lt_of_le_of_lt h (by decide)
/-- The hits that still count are copied. -/
theorem ask_r0 {M : Nat} {t x k l w b a0 a1 b0 b1 : Int} {s : List Int} {L : List S50} (hL : L.length ≤ 900) (hc : -9223372036854775808 ≤ t - w ∧ t - w < 9223372036854775808) : ∀ (d i : Nat) (acc : List S50), L.length - i = d → i ≤ L.length → acc.length ≤ i →
    sandglassref13_Ask.l0 (M + d) t x (i : Int) k l w b a0 a1 s L b0 b1 acc = sandglassref13_Ask.l0 M t x (L.length : Int) k l w b a0 a1 s L b0 b1 (acc ++ behind (t - w) (L.drop i)) := by
  intro d
  induction d with
  | zero =>
    intro i acc hd hi ha
    have : i = L.length := by omega
    subst this
    rw [List.drop_eq_nil_of_le (by omega)]
    simp [behind]
  | succ d ih =>
    intro i acc hd hi ha
    rw [rd_drop L i (by omega), behind_cons, show M + (d + 1) = (M + d) + 1 from rfl, sandglassref13_Ask.l0, if_pos (by omega), if_pos (by omega), wr (x := t - w) hc.1 hc.2, wr (x := (i : Int) + 1) (by omega) (by omega), show (i : Int) + 1 = ((i + 1 : Nat) : Int) by omega]
    by_cases hg : (rd_T50 L (i : Int)).f0 > t - w
    · rw [if_pos hg, if_pos hg, if_pos (short8 (by omega)), ih (i + 1) _ (by omega) (by omega) (by simp; omega), List.append_assoc]
      rfl
    · rw [if_neg hg, if_neg hg, ih (i + 1) _ (by omega) (by omega) (by omega)]
theorem weigh_rr (t : Int) : sandglassref09_Weighs.f t = some (weighF t) := weigh_r t
theorem ask_r {n : Nat} (hn : 5000 ≤ n) (k l w b a v : Int) (s : List Int) (h : List S50) (t x : Int) (hh : h.length ≤ 900) : sandglassref13_Ask.f n k l w b a v s h t x = some (askV k l w b a v s h t x) := by
  obtain ⟨n, rfl⟩ : ∃ m, n = m + 4 + h.length := ⟨n - 4 - h.length, by omega⟩
  have T : sandglassref13_Ask.j0 (n + 4 + h.length) t x true k l w b a v s h = some (a, v, s, h, false, 0, 0, 0) := by
    rw [show n + 4 + h.length = (n + 3 + h.length) + 1 by omega, sandglassref13_Ask.j0, if_pos rfl]
  unfold sandglassref13_Ask.f askV
  rw [may_r (by omega) _ _ _ _ _ _ _ _ (by omega), Option.bind_some, time_r, weigh_r]
  cases hm : mayF k l w b a v s h
  · simp [T]
  cases ht : timeF t
  · simp [T]
  cases hx : weighF x
  · simp [T]
  obtain ⟨hk, l0, l1, w0, w1, a0, a1, hv, hs, ho, hc⟩ := may_is hm
  have tt := time_is.1 ht
  have xx := weigh_is.1 hx
  have mm := mx_le t a
  have hW := okL_W l1 ho (by omega)
  simp only [if_true, Option.bind_some, Bool.not_true, Bool.and_self]
  have hr := okL_since (c := mx t a - w) ho
  have hrW := okW_since (c := mx t a - w) hW
  have hrl := since_len (mx t a - w) h
  have hcr := since_cnt (c := mx t a - w) ho
  have eA : askF l w a h t x = askR l w (mx t a) (since (mx t a - w) h) x := askF_R ..
  have hB := behind_since (c := mx t a - w) ho
  rw [show n + 4 + h.length = (n + 3 + h.length) + 1 by omega, sandglassref13_Ask.j0, if_neg (by simp), eA]
  obtain ⟨u, hu⟩ : ∃ u, mx t a = u := ⟨_, rfl⟩
  rw [hu] at hr hrW hrl hcr hB mm ⊢
  have hin := ask_r0 (M := n + 3) (t := u) (x := x) (k := k) (l := l) (w := w) (b := b) (a0 := a) (a1 := v) (b0 := u) (b1 := 0) (s := s) (L := h) hh (by omega) h.length 0 [] (by omega) (by omega) (by simp)
  rw [show ((0 : Nat) : Int) = 0 from rfl] at hin
  rw [hin, List.drop_zero, List.nil_append, hB]
  generalize since (u - w) h = r at hr hrW hrl hcr ⊢
  have cr := okW_cnt hrW
  have hmx := mx_le (-1) (a - w)
  have hmr := okL_mem hr.1
  have hmem : ∀ y ∈ r, u - w < y.f0 ∧ 0 ≤ y.f0 ∧ y.f0 ≤ 1099511627776 := fun y hy => by
    have q := hmr y hy
    have := hr.2 y hy
    exact ⟨by omega, by omega, by omega⟩
  have hor : okL l u (mx (-1) (u - w)) r = true := okL_up (okL_low hr.1 (fun z hz => by have := hmr z hz; have := hr.2 z hz; unfold mx; split <;> omega)) (fun z hz => by have := hmr z hz; omega)
  rw [sandglassref13_Ask.l0, if_neg (by omega), counts_f (by omega) hrW u k l w b (by omega), Option.bind_some, behind_id hr.2, wr (x := cnt r + x) (by omega) (by omega)]
  by_cases c1 : cnt r + x ≤ l
  · have hoq : okL l u (mx (-1) (u - w)) (addL u x r) = true := okL_add hor (by unfold mx; split <;> omega) c1 xx.1
    have hlq := add_len u x r
    have hcq := cnt_add u x r
    have hqW := okL_W l1 hoq (by omega)
    have hwq := wait_r (n := n) (by omega) hoq hqW k l w b u 0 (by omega) w1 (by omega) (by omega) (by omega) (fun y hy => by
      rcases add_mem y hy with h1 | h1
      · exact ⟨by omega, by omega, by omega⟩
      · exact hmem y h1)
    rw [if_pos c1, askR_pos c1, decide_eq_true c1, hcq]
    have J3 : sandglassref13_Ask.j3 (n + 1) u (cnt r + x) k l w b u 0 (addL u x r) true 0 0 0 = some (u, 0, [], addL u x r, true, l - (cnt r + x), 0, waitU w 0 (cnt r + x) u (addL u x r) - u) := by
      rw [sandglassref13_Ask.j3, hwq, Option.bind_some, hcq, wr (x := l - (cnt r + x)) (by omega) (by omega)]
    rcases snoc_cases r with rfl | ⟨m, y, rfl⟩
    · rw [addL_nil] at J3 ⊢
      simp only [List.length_nil, List.nil_append]
      rw [wr (x := ((0 : Nat) : Int) - 1) (by omega) (by omega), if_neg (by omega), sandglassref13_Ask.j2, if_neg (by simp), if_pos (by decide)]
      exact J3
    · have hlast := rd_last m y
      have hpos : 0 < (m ++ [y]).length := by simp
      rw [wr (x := ((m ++ [y]).length : Int) - 1) (by omega) (by omega), if_pos (by omega), if_pos (by omega), if_pos (by omega), hlast]
      rw [addL_snoc] at J3 ⊢
      by_cases hy : y.f0 = u
      · have e2 : (((m ++ [y]).length : Int) - 1).toNat = m.length := by simp
        have hy1 := hmr y (by simp)
        rw [if_pos hy] at J3
        rw [if_pos hy, show (y.f0 == u) = true by simp [hy], sandglassref13_Ask.j2, if_pos rfl, if_pos (by omega), if_pos (by omega), hlast, e2, wr (x := y.f1 + x) (by omega) (by omega), show (m ++ [y]).set m.length ⟨y.f0, y.f1 + x⟩ = m ++ [⟨u, y.f1 + x⟩] by rw [hy]; simp]
        exact J3
      · rw [if_neg hy] at J3
        rw [if_neg hy, show (y.f0 == u) = false by simp [hy], sandglassref13_Ask.j2, if_neg (by simp), if_pos (short8 (by omega)), show (m ++ [y]) ++ [(⟨u, x⟩ : S50)] = m ++ [y, ⟨u, x⟩] by simp]
        exact J3
  · have hwq := wait_r (n := n + 1) (by omega) hor hrW k l w b u 0 (by omega) w1 (by omega) (by omega) (by omega) hmem
    have J3 : ∀ ry, sandglassref13_Ask.j3 (n + 2) u (cnt r) k l w b u 0 r false 0 ry 0 = some (u, 0, [], r, false, l - cnt r, ry, waitU w 0 (cnt r) u r - u) := by
      intro ry
      rw [sandglassref13_Ask.j3, hwq, Option.bind_some, wr (x := l - cnt r) (by omega) (by omega)]
    rw [if_neg c1, askR_neg c1, decide_eq_false c1]
    by_cases hxl : x > l
    · rw [if_pos hxl, if_pos hxl, J3]
    · rw [if_neg hxl, if_neg hxl, wr (x := l - x) (by omega) (by omega), wait_r (n := n + 2) (by omega) hor hrW k l w b u (l - x) (by omega) w1 (by omega) (by omega) (by omega) hmem, Option.bind_some, J3]
theorem total_r {n : Nat} (hn : 2200 ≤ n) (k l w b a v : Int) (s : List Int) (h : List S50) (t : Int) (hh : h.length ≤ 900) : sandglassref13_Total.f n k l w b a v s h t = some (if mayF k l w b a v s h && timeF t then cnt (since (mx t a - w) h) else 0) := by
  obtain ⟨n, rfl⟩ : ∃ m, n = m + 1 := ⟨n - 1, by omega⟩
  unfold sandglassref13_Total.f
  rw [may_r (by omega) _ _ _ _ _ _ _ _ (by omega), Option.bind_some, time_r]
  cases hm : mayF k l w b a v s h
  · simp [sandglassref13_Total.j0]
  cases ht : timeF t
  · simp [sandglassref13_Total.j0]
  obtain ⟨hk, l0, l1, w0, w1, a0, a1, hv, hs, ho, hc⟩ := may_is hm
  have tt := time_is.1 ht
  have mm := mx_le t a
  have hW := okL_W l1 ho (by omega)
  simp only [if_true, Option.bind_some, Bool.not_true, Bool.and_self, sandglassref13_Total.j0, Bool.false_eq_true, if_false]
  rw [counts_f (by omega) hW _ k l w b (by omega), Option.bind_some, behind_since ho]
theorem ends_r {n : Nat} (hn : 3200 ≤ n) (k l w b a v : Int) (s : List Int) (h : List S50) (hh : h.length ≤ 900) : sandglassref13_Ends.f n k l w b a v s h = some (ends k l w b a v s h) := by
  unfold sandglassref13_Ends.f ends
  rw [may_r (by omega) _ _ _ _ _ _ _ _ (by omega), Option.bind_some]
  cases hm : mayF k l w b a v s h
  · simp
  obtain ⟨hk, l0, l1, w0, w1, a0, a1, hv, hs, ho, hc⟩ := may_is hm
  have hW := okL_W l1 ho (by omega)
  have hmx := mx_le (-1) (a - w)
  have hmem : ∀ y ∈ h, a - w < y.f0 ∧ 0 ≤ y.f0 ∧ y.f0 ≤ 1099511627776 := fun y hy => by
    have q := okL_mem ho y hy
    exact ⟨by omega, by omega, by omega⟩
  have wb := waitU_bd (w := w) (most := 0) (by omega) h (cnt h) a (by omega) (fun y hy => by have := hmem y hy; omega)
  simp only [if_true]
  rw [wait_r hn ho hW k l w b a 0 (by omega) w1 a0 a1 (by omega) hmem, Option.bind_some, show a + (waitU w 0 (cnt h) a h - a) = waitU w 0 (cnt h) a h by omega, wr (by omega) (by omega)]
end Go.Proofs.Ytempbjcmhillgaa.La


namespace Go.Proofs.Ytempbjcmhillgaa.exactAsks
open Go.RowKit Go.Proofs.YtempbjcmhillgaaW.PrintWords Go.Proofs.YtempbjcmhillgaaW.PrintLast Go.Proofs.YtempbjcmhillgaaW.PrintMore Go.Proofs.Ytempbjcmhillgaa.Q
def Pure : Prop := ∀ (a0_0 : Int) (a0_1 : Int) (a0_2 : Int) (a0_3 : Int) (a1_0 : Int) (a1_1 : Int) (a1_2 : List Int) (a1_3 : List S50) (a2_0 : Int) (a2_1 : Int), (Lit.int .i64 a0_0).wf = true → (Lit.int .i64 a0_1).wf = true → (Lit.int .i64 a0_2).wf = true → (Lit.int .i64 a0_3).wf = true → (Lit.int .i64 a1_0).wf = true → (Lit.int .i64 a1_1).wf = true → (a1_2.length ≤ maxLen ∧ ∀ x ∈ a1_2, (Lit.int .i64 x).wf = true) → (a1_3.length ≤ maxLen ∧ ∀ x ∈ a1_3, ((Lit.int .i64 x.f0).wf = true ∧ (Lit.int .i64 x.f1).wf = true)) → (Lit.int .i64 a2_0).wf = true → (Lit.int .i64 a2_1).wf = true → ∃ k, sandglasslaw13_ExactAsks.f k a0_0 a0_1 a0_2 a0_3 a1_0 a1_1 a1_2 a1_3 a2_0 a2_1 = some true
end Go.Proofs.Ytempbjcmhillgaa.exactAsks


namespace Go.Proofs.Ytempbjcmhillgaa.exactAsks
open Go.RowKit Go.Proofs.YtempbjcmhillgaaW.PrintWords Go.Proofs.YtempbjcmhillgaaW.PrintLast Go.Proofs.YtempbjcmhillgaaW.PrintMore Go.Proofs.Ytempbjcmhillgaa.Q Go.Proofs.Ytempbjcmhillgaa.La
set_option linter.unusedSimpArgs false
set_option linter.unusedVariables false
theorem ask_len (k l w b a v : Int) (s : List Int) (h : List S50) (t x : Int) (hs : s.length ≤ 40) (hh : h.length ≤ 40) : (askV k l w b a v s h t x).2.2.1.length ≤ 40 ∧ (askV k l w b a v s h t x).2.2.2.1.length ≤ 100 := by
  unfold askV
  split
  · rw [askF_R]
    have hr := since_len (mx t a - w) h
    by_cases c1 : cnt (since (mx t a - w) h) + x ≤ l
    · rw [askR_pos c1]
      have := add_len (mx t a) x (since (mx t a - w) h)
      exact ⟨by simp, by dsimp only; omega⟩
    · rw [askR_neg c1]
      exact ⟨by simp, by dsimp only; omega⟩
  · exact ⟨hs, by dsimp only; omega⟩
theorem pure : Pure := by
  intro k l w b a v s h t x _ _ _ _ _ _ _ _ _ _
  refine ⟨6000, ?_⟩
  unfold sandglasslaw13_ExactAsks.f
  rw [few_f]
  simp only [Option.bind_some, live_at (show 40 ≤ 6000 by omega)]
  cases hf : (decide (s.length ≤ 40) && decide (h.length ≤ 40))
  · simp
  simp only [Bool.and_eq_true, decide_eq_true_eq] at hf
  have hl := ask_len k l w b a v s h t x hf.1 hf.2
  simp only [if_true, ask_f (show 2200 ≤ 6000 by omega) k l w b a v s h t x (by omega), ask_r (show 5000 ≤ 6000 by omega) k l w b a v s h t x (by omega), Option.bind_some, same_refl' (show 200 ≤ 6000 by omega) _ _ _ _ hl.1 hl.2, may_f (show 2100 ≤ 6000 by omega) k l w b a v s h (by omega), may_r (show 2100 ≤ 6000 by omega) k l w b a v s h (by omega), total_f (show 2200 ≤ 6000 by omega) k l w b a v s h t (by omega), total_r (show 2200 ≤ 6000 by omega) k l w b a v s h t (by omega), ends_f (show 2200 ≤ 6000 by omega) k l w b a v s h (by omega), ends_r (show 3200 ≤ 6000 by omega) k l w b a v s h (by omega)]
  simp
end Go.Proofs.Ytempbjcmhillgaa.exactAsks


namespace Go.Proofs.Ytempbjcmhillgaa.exactAsks
open Go.ChangeShapes Go.WideShapes Go.ChangeAt Go.RowKit
open Go.Proofs.Ytempbjcmhillgaa.Op Go.Proofs.YtempbjcmhillgaaW.PrintWords Go.Proofs.Ytempbjcmhillgaa.Q
set_option linter.unusedVariables false
theorem own : ownKnob Try.prog.godebug = none := by kernel_rfl
theorem laidOut : laidOutB Try.prog = true := by kernel_rfl
instance : Inhabited S50 := ⟨z50⟩
set_option maxRecDepth 100000 in
set_option maxHeartbeats 2000000 in
theorem lifted (os : Os) (started : os.Started) (H : Type) (enc : TypeId × Value → H) :
    ReturnsInHanded {} Try.checked os 3 .any (Rows.exactAsksSpec.pre6 enc Try.prog Try.f3 Rows.exactAsksRow.domain false) (Rows.exactAsksSpec.post enc Try.prog Try.f3 false true false false) := by
  refine returnsInHanded_of_change_sized (C := Try.checked) own started (by kernel_rfl) Try.func3
    (ChangeSpec.witness6 (enc := enc) (C := Try.checked) false ⟨#[], #[.agg #[.int .i64 0, .int .i64 0, .int .i64 0, .int .i64 0], .agg #[.int .i64 0, .int .i64 0, .slice none 0 0, .slice none 0 0], .agg #[.int .i64 0, .int .i64 0]], []⟩ 8 (by kernel_rfl) (by kernel_rfl) (by kernel_rfl) (by kernel_rfl)) ?_
  intro W base args ds gs before hval0 hW hcnd hsz0 _
  have hval : ∀ (j : Nat) t v, Try.f3.params[j]? = some t → args[j]? = some v → Value.okWide Try.prog W .any base t v := hval0
  have hW' := hW
  obtain ⟨p, q, hA0, hV, rfl, hfz, hnd⟩ := hW
  have hA : DataW.TrodAll enc Try.prog W 0 (fun _ => true) true Try.f3.params.toList args.toList ds p := hA0
  rw [Try.params3] at hA hval
  obtain ⟨v0, vs0, d0, ds0, p0, q0, hargs, rfl, rfl, h0, r0⟩ := trodAll_cons hA
  obtain ⟨v1, vs1, d1, ds1, p1, q1, rfl, rfl, rfl, h1, r1⟩ := trodAll_cons r0
  obtain ⟨v2, vs2, d2, ds2, p2, q2, rfl, rfl, rfl, h2, r2⟩ := trodAll_cons r1
  obtain ⟨rfl, rfl, rfl⟩ := trodAll_nil r2
  obtain rfl : args = #[v0, v1, v2] := by cases args; simp_all
  obtain ⟨rfl, rfl⟩ := trodVars_none hV
  have k0 := h0
  obtain ⟨fu0, hf0⟩ := h0
  obtain ⟨cs0, rfl, _⟩ := okWide_struct Try.underlying23 (hval 0 23 v0 rfl rfl)
  obtain ⟨⟨a0_0, a0_1, a0_2, a0_3⟩, hK0, ⟨oka0_0, oka0_1, oka0_2, oka0_3⟩⟩ := ((Opens.struct Try.underlying23 (by kernel_rfl) (OpensG.cons (Opens.int Try.underlying3) (by kernel_rfl) (by kernel_rfl) (OpensG.cons (Opens.int Try.underlying3) (by kernel_rfl) (by kernel_rfl) (OpensG.cons (Opens.int Try.underlying3) (by kernel_rfl) (by kernel_rfl) (OpensG.one (Opens.int Try.underlying3) (by kernel_rfl) (by kernel_rfl))))))).out hf0
  obtain ⟨_, _, hcsa0, rfl, ⟨_, _, rfl, rfl, ⟨_, _, rfl, rfl, rfl⟩⟩⟩ := hK0
  obtain rfl := agg_of hcsa0
  have k1 := h1
  obtain ⟨fu1, hf1⟩ := h1
  obtain ⟨cs1, rfl, _⟩ := okWide_struct Try.underlying27 (hval 1 27 v1 rfl rfl)
  obtain ⟨⟨a1_0, a1_1, a1_2, a1_3⟩, hK1, ⟨oka1_0, oka1_1, oka1_2, oka1_3⟩⟩ := ((Opens.struct Try.underlying27 (by kernel_rfl) (OpensG.cons (Opens.int Try.underlying3) (by kernel_rfl) (by kernel_rfl) (OpensG.cons (Opens.int Try.underlying3) (by kernel_rfl) (by kernel_rfl) (OpensG.cons (Opens.slice Try.underlying24 (Opens.int Try.underlying3) (by kernel_rfl)) (by kernel_rfl) (by kernel_rfl) (OpensG.one (Opens.slice Try.underlying25 (Opens.iso (Opens.struct Try.underlying50 (by kernel_rfl) (OpensG.cons (Opens.int Try.underlying3) (by kernel_rfl) (by kernel_rfl) (OpensG.one (Opens.int Try.underlying3) (by kernel_rfl) (by kernel_rfl)))) (fun x : S50 => (x.f0, x.f1)) (fun y => (⟨y.1, y.2⟩ : S50)) (fun _ => rfl)) (by kernel_rfl)) (by kernel_rfl) (by kernel_rfl))))))).out hf1
  obtain ⟨_, _, hcsa1, rfl, ⟨_, _, rfl, rfl, ⟨_, _, rfl, ⟨Aa1_2, ca1_2, rfl, hca1_2, hra1_2⟩, ⟨Aa1_3, ca1_3, rfl, hca1_3, hra1_3⟩⟩⟩⟩ := hK1
  obtain rfl := agg_of hcsa1
  have k2 := h2
  obtain ⟨fu2, hf2⟩ := h2
  obtain ⟨cs2, rfl⟩ := okWide_array Try.underlying28 (hval 2 28 v2 rfl rfl)
  obtain ⟨⟨a2_0, a2_1⟩, hK2, ⟨oka2_0, oka2_1⟩⟩ := ((Opens.array Try.underlying28 (by kernel_rfl) (OpensG.cons (Opens.int Try.underlying3) (by kernel_rfl) (by kernel_rfl) (OpensG.one (Opens.int Try.underlying3) (by kernel_rfl) (by kernel_rfl))))).out hf2
  obtain ⟨_, _, hcsa2, rfl, rfl⟩ := hK2
  obtain rfl := agg_of hcsa2
  clear hA0 hval0 hsz0
  obtain ⟨k, hp⟩ := pure a0_0 a0_1 a0_2 a0_3 a1_0 a1_1 a1_2 a1_3 a2_0 a2_1 oka0_0 oka0_1 oka0_2 oka0_3 oka1_0 oka1_1 oka1_2 oka1_3 oka2_0 oka2_1
  refine (sandglasslaw13_ExactAsks.calls k a0_0 a0_1 a0_2 a0_3 a1_0 a1_1 Aa1_2 ca1_2 a1_2 Aa1_3 ca1_3 a1_3 a2_0 a2_1 true W hra1_2 hca1_2 hra1_3 hca1_3 hp).mono fun e W' ⟨he, bel0⟩ => ?_
  have bel : Below W.heap.size W W' := bel0
  subst he
  exact ⟨_, rfl, _, _, _, [], _, [], hW', trodAll_mk1 (shut_bool Try.underlying4 _), (trodAll_cons_mk (Below.trod laidOut (by kernel_rfl) (of_decide_eq_true (by kernel_rfl)) k0 bel (trod_lt_all k0)) (trodAll_cons_mk (Below.trod laidOut (by kernel_rfl) (of_decide_eq_true (by kernel_rfl)) k1 bel (trod_lt_all k1)) (trodAll_cons_mk (Below.trod laidOut (by kernel_rfl) (of_decide_eq_true (by kernel_rfl)) k2 bel (trod_lt_all k2)) trodAll_mk0))), rfl, bel.frame _, fun h => by cases h⟩
theorem over : Rows.exactAsksRow.holds Try.pinned (OpenSpec.ofChange Rows.exactAsksSpec) :=
  OpenClaim.holds_of_wide 3 Try.f3 rfl rfl rfl rfl rfl rfl rfl ⟨rfl, rfl, rfl, rfl, rfl⟩ rfl rfl rfl rfl rfl (by kernel_rfl) Try.func3 (by kernel_rfl)
    (of_decide_eq_true (by kernel_rfl)) (by unfold Func.isWrapper; first | (rw [if_pos (by decide +kernel)]; kernel_rfl) | (rw [if_neg (by decide +kernel)]; exact ⟨rfl, rfl⟩))
    (fun os started H enc _ => lifted os started H enc)
end Go.Proofs.Ytempbjcmhillgaa.exactAsks
namespace Go.Proofs.Ytempbjcmhillgaa
/-- The statement. -/
theorem exactAsks_holds : Rows.ExactAsksSaid := exactAsks.over
#print axioms exactAsks_holds
end Go.Proofs.Ytempbjcmhillgaa

