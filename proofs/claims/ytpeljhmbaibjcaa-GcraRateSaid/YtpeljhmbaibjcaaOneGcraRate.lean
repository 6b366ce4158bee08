/- The statement GcraRate: whatever the input, the law's function returns true and leaves its arguments as they were. No further condition. -/
import Derived.Test.YtpeljhmbaibjcaaWFoot
import Derived.Deep.Slices
import Derived.OpenShut
import Derived.SizedLaws
import Derived.WideShapes
import Derived.Test.YtpeljhmbaibjcaaQ19
import Derived.Test.YtpeljhmbaibjcaaQ21
import Derived.Test.YtpeljhmbaibjcaaQ20
import Derived.Test.YtpeljhmbaibjcaaQ26
import Derived.Test.YtpeljhmbaibjcaaQ27
import Derived.Test.YtpeljhmbaibjcaaQ28
import Derived.Test.YtpeljhmbaibjcaaQ31
import Derived.IntWalk
import Derived.Test.YtpeljhmbaibjcaaQ30
import Derived.Test.YtpeljhmbaibjcaaQ3
import Derived.Test.YtpeljhmbaibjcaaQ22
import Derived.Test.YtpeljhmbaibjcaaQ0
import Derived.Test.YtpeljhmbaibjcaaQ35
import Derived.Test.YtpeljhmbaibjcaaRows
import Derived.WalkKit
import Derived.ProofKit
import Derived.ShutString
import Derived.ChangeOld
import Derived.Below
namespace Go.Proofs.Ytpeljhmbaibjcaa.Op
open Go.RowKit Go.Proofs.YtpeljhmbaibjcaaW.PrintWords Go.WideShapes

/-- Whatever reads as a datum of the type t is told by the kind d, and is as 'ok' says. -/
def Opens (P : Program) (t : TypeId) {α : Type} (d : Kd α) (ok : α → Prop) : Prop :=
  ∀ {H : Type} {enc : TypeId × Value → H} {w : World} {base : Nat} {spare : Nat → Bool} {held : Bool} {fuel : Nat} {cs : List Value} {x : DataW H × List MemPlace},
    DataW.trod enc P w base spare held fuel t cs = some x → ∃ a, d.K w a cs ∧ ok a

theorem Opens.int {P : Program} {t : TypeId} {k : IntKind} (hu : P.underlying t = some (.int k)) : Opens P t (Kd.int k) (fun a => (Lit.int k a).wf = true) := by
  intro H enc w base spare held fuel cs x h
  obtain ⟨n, rfl, _, hw⟩ := DataW.trod_int hu h
  exact ⟨n, rfl, hw⟩
theorem Opens.bool {P : Program} {t : TypeId} (hu : P.underlying t = some .bool) : Opens P t Kd.bool (fun _ => True) := by
  intro H enc w base spare held fuel cs x h
  obtain ⟨n, rfl, _⟩ := DataW.trod_bool hu h
  exact ⟨n, rfl, trivial⟩
theorem Opens.string {P : Program} {t : TypeId} (hu : P.underlying t = some .string) : Opens P t Kd.string (fun s => s.size ≤ maxLen) := by
  intro H enc w base spare held fuel cs x h
  obtain ⟨n, rfl, _, hs⟩ := DataW.trod_string hu h
  exact ⟨n, rfl, hs⟩
theorem Opens.slice {P : Program} {t e : TypeId} {α : Type} [Inhabited α] {d : Kd α} {ok : α → Prop} (hu : P.underlying t = some (.slice e)) (he : Opens P e d ok) (hc : P.cellsOf e = d.sz) :
    Opens P t (Kd.slice e d) (fun xs => xs.length ≤ maxLen ∧ ∀ x ∈ xs, ok x) := by
  intro H enc w base spare held fuel cs x h
  rcases Deep.open_slice hu h with ⟨rfl, _⟩ | ⟨a, len, cap, m, n, D, Pl, rfl, _, hl, hm, hmm, _, hel⟩
  · exact ⟨[], ⟨none, 0, rfl, Nat.le_refl _, Kd.C_nil d w⟩, ⟨Nat.zero_le _, fun x hx => by cases hx⟩⟩
  · have hle : len ≤ m := by rw [hmm]; split <;> omega
    obtain ⟨f, hf⟩ := Deep.choose_lt (α := α) (n := len) (p := fun i p => ok p ∧ ∃ c, c.length = d.sz ∧ d.K w p c ∧ ∀ j u, c[j]? = some u → w.cell? (a.add (i * d.sz + j)) = some u) (fun i hi => by
      obtain ⟨cs', h1, h2⟩ := hel i (by omega)
      obtain ⟨y, hK, hok⟩ := he h2
      obtain ⟨_, hlen, hcell⟩ := World.cells?_some h1
      refine ⟨y, hok, cs', by rw [hlen, hc], hK, fun j u hj => ?_⟩
      have hlt : j < P.cellsOf e := by rw [← hlen]; exact (List.getElem?_eq_some_iff.1 hj).1
      have := hcell j hlt
      rw [hc, Deep.add_add] at this
      rw [this, hj])
    refine ⟨(List.range len).map f, ⟨some a, cap, by simp, by simpa using hl, ?_⟩, by simpa using Nat.le_trans hl hm, ?_⟩
    · refine ⟨rfl, ?_, fun _ => ⟨a, rfl, fun j p hj => ?_⟩⟩
      · have : maxLen ≤ 9223372036854775807 := by decide
        simp; omega
      · rw [List.getElem?_map] at hj
        obtain ⟨q, hq, rfl⟩ := Option.map_eq_some_iff.1 hj
        have hlt := (List.getElem?_eq_some_iff.1 hq).1
        rw [List.length_range] at hlt
        rw [List.getElem?_range hlt] at hq
        obtain rfl := Option.some.inj hq
        exact (hf j hlt).2
    · intro x hx
      obtain ⟨i, hi, rfl⟩ := List.mem_map.1 hx
      exact (hf i (List.mem_range.1 hi)).1
theorem Opens.iso {P : Program} {t : TypeId} {α β : Type} {d : Kd α} {ok : α → Prop} (h : Opens P t d ok) (f : β → α) (g : α → β) (hfg : ∀ y, f (g y) = y) : Opens P t (Kd.iso d f) (fun b => ok (f b)) := by
  intro H enc w base spare held fuel cs x hx
  obtain ⟨a, hK, hok⟩ := h hx
  exact ⟨g a, by show d.K w (f (g a)) cs; rw [hfg]; exact hK, by show ok (f (g a)); rw [hfg]; exact hok⟩

/-- Parts in line: each of a type, at a place. -/
def OpensG (P : Program) {β : Type} (ty : β → TypeId) (at_ : β → Nat) (l : List β) (off : Nat) {α : Type} (d : Kd α) (ok : α → Prop) : Prop :=
  ∀ {H : Type} {enc : TypeId × Value → H} {w : World} {base : Nat} {spare : Nat → Bool} {held : Bool} {fuel : Nat} {cs : List Value} {ys : List (DataW H × List MemPlace)},
    cs.length = off + d.sz → l.mapM (fun b => DataW.trod enc P w base spare held fuel (ty b) ((cs.drop (at_ b)).take (P.cellsOf (ty b)))) = some ys → ∃ a, d.K w a (cs.drop off) ∧ ok a

theorem OpensG.one {P : Program} {β : Type} {ty : β → TypeId} {at_ : β → Nat} {b : β} {off : Nat} {α : Type} {d : Kd α} {ok : α → Prop} (h : Opens P (ty b) d ok) (ha : at_ b = off) (hc : P.cellsOf (ty b) = d.sz) : OpensG P ty at_ [b] off d ok := by
  intro H enc w base spare held fuel cs ys hl hm
  simp only [List.mapM_cons, List.mapM_nil, Option.pure_def, Option.bind_eq_bind, Option.bind_eq_some_iff] at hm
  obtain ⟨y, hy, _⟩ := hm
  rw [ha, hc] at hy
  obtain ⟨a, hK, hok⟩ := h hy
  rw [List.take_of_length_le (by rw [List.length_drop]; omega)] at hK
  exact ⟨a, hK, hok⟩
theorem OpensG.cons {P : Program} {β : Type} {ty : β → TypeId} {at_ : β → Nat} {b : β} {l : List β} {off : Nat} {α γ : Type} {d : Kd α} {ok : α → Prop} {d2 : Kd γ} {ok2 : γ → Prop} (h : Opens P (ty b) d ok) (ha : at_ b = off) (hc : P.cellsOf (ty b) = d.sz)
    (h2 : OpensG P ty at_ l (off + d.sz) d2 ok2) : OpensG P ty at_ (b :: l) off (Kd.pair d d2) (fun p => ok p.1 ∧ ok2 p.2) := by
  intro H enc w base spare held fuel cs ys hl hm
  simp only [List.mapM_cons, Option.pure_def, Option.bind_eq_bind, Option.bind_eq_some_iff] at hm
  obtain ⟨y, hy, zs, hz, _⟩ := hm
  rw [ha, hc] at hy
  obtain ⟨a, hK, hok⟩ := h hy
  have hl' : cs.length = off + (d.sz + d2.sz) := hl
  obtain ⟨c, hK2, hok2⟩ := h2 (by omega) hz
  refine ⟨(a, c), ⟨_, _, ?_, hK, hK2⟩, hok, hok2⟩
  rw [← List.drop_drop, List.take_append_drop]
theorem Opens.struct {P : Program} {t : TypeId} {fs : Array Field} {α : Type} {d : Kd α} {ok : α → Prop} (hu : P.underlying t = some (.struct fs)) (hc : P.cellsOf t = d.sz) (h : OpensG P (fun f : Field => f.type) (fun f => f.offset) fs.toList 0 d ok) : Opens P t d ok := by
  intro H enc w base spare held fuel cs x hx
  cases fuel with
  | zero => simp [DataW.trod] at hx
  | succ n =>
    unfold DataW.trod at hx
    rw [hu] at hx
    split at hx <;> (try simp_all; done)
    all_goals
      rename_i heq
      injection heq with h1
      injection h1 with h2
      subst h2
      split at hx
      · rename_i hl
        obtain ⟨ys, hy, _⟩ := Option.map_eq_some_iff.1 hx
        have := h (by rw [hl, hc]; omega) hy
        simpa using this
      · cases hx
theorem Opens.array {P : Program} {t e : TypeId} {n : Nat} {α : Type} {d : Kd α} {ok : α → Prop} (hu : P.underlying t = some (.array n e)) (hc : P.cellsOf t = d.sz) (h : OpensG P (fun _ : Nat => e) (fun i => i * P.cellsOf e) (List.range n) 0 d ok) : Opens P t d ok := by
  intro H enc w base spare held fuel cs x hx
  cases fuel with
  | zero => simp [DataW.trod] at hx
  | succ m =>
    unfold DataW.trod at hx
    rw [hu] at hx
    split at hx <;> (try simp_all; done)
    all_goals
      rename_i heq
      injection heq with h1
      injection h1 with h2 h3
      subst h2 h3
      split at hx
      · rename_i hl
        obtain ⟨ys, hy, _⟩ := Option.map_eq_some_iff.1 hx
        have := h (by rw [hl, hc]; omega) hy
        simpa using this
      · cases hx
theorem okWide_array {P : Program} {w : World} {r : Reach} {base : Nat} {t e : TypeId} {n : Nat} {v : Value} (ht : P.underlying t = some (.array n e)) (h : Value.okWide P w r base t v) : ∃ cs, v = .agg cs := by
  unfold Value.okWide at h
  rw [ht] at h
  obtain ⟨cs, hcs, _⟩ := h
  exact ⟨cs, hcs⟩
theorem agg_of {cs : Array Value} {l : List Value} (h : (Value.agg cs).cells.toList = l) : cs = l.toArray := by
  rw [← h]; rfl
theorem slice_of {a A : Option Addr} {n m c C : Nat} (h : (Value.slice a n c).cells.toList = [.slice A m C]) : a = A ∧ n = m ∧ c = C := by
  simpa [Value.cells] using h
theorem trod_lt_all {H : Type} {enc : TypeId × Value → H} {P : Program} {w : World} {base : Nat} {spare : Nat → Bool} {held : Bool} {t : TypeId} {v : Value} {d : DataW H} {p : List MemPlace} (h : DataW.Trod enc P w base spare held t v d p) : ∀ x ∈ p, x.block < w.heap.size := by
  obtain ⟨m, hm⟩ := h
  exact DataW.trod_lt m _ _ _ hm
theorem Opens.out {P : Program} {t : TypeId} {α : Type} {d : Kd α} {ok : α → Prop} (h : Opens P t d ok) {H : Type} {enc : TypeId × Value → H} {w : World} {base : Nat} {spare : Nat → Bool} {held : Bool} {fuel : Nat} {cs : List Value} {x : DataW H × List MemPlace}
    (hx : DataW.trod enc P w base spare held fuel t cs = some x) : ∃ a, d.K w a cs ∧ ok a := h hx
attribute [irreducible] Opens OpensG
end Go.Proofs.Ytpeljhmbaibjcaa.Op


namespace Go.Proofs.Ytpeljhmbaibjcaa.La
open Go.RowKit Go.Proofs.YtpeljhmbaibjcaaW.PrintWords Go.Proofs.YtpeljhmbaibjcaaW.PrintLast Go.Proofs.YtpeljhmbaibjcaaW.PrintMore Go.Proofs.Ytpeljhmbaibjcaa.Q
set_option linter.unusedSimpArgs false
set_option linter.unusedVariables false
theorem wr {x : Int} (h0 : -9223372036854775808 ≤ x) (h1 : x < 9223372036854775808) : wrap64 x = x := by unfold wrap64; omega
theorem uw {x : Int} (h0 : 0 ≤ x) (h1 : x ≤ 18446744073709551615) : IntKind.u64.wrap x = x := IntWalk.u64_in x ⟨h0, h1⟩
theorem mx_le (a b : Int) : a ≤ mx a b ∧ b ≤ mx a b ∧ (mx a b = a ∨ mx a b = b) := by unfold mx; split <;> omega
theorem mul_le {a b p q : Int} (h0 : 0 ≤ a) (h1 : a ≤ p) (h2 : 0 ≤ b) (h3 : b ≤ q) : 0 ≤ a * b ∧ a * b ≤ p * q :=
  ⟨Int.mul_nonneg h0 h2, Int.mul_le_mul h1 h3 h2 (Int.le_trans h0 h1)⟩

/-- A product that fits. -/
theorem mul_f (k : Nat) {a b : Int} (h0 : 0 ≤ a) (h1 : a ≤ 1099511627776) (h2 : 0 ≤ b) (h3 : b ≤ 1048576) : nums_Mul.f (k + 1) a b 9223372036854775807 = some (a * b) := by
  have hb : b / 4294967296 = 0 := by omega
  have hb2 : b % 4294967296 = b := by omega
  have e : a / 4294967296 * 4294967296 + a % 4294967296 = a := by omega
  have e2 : a / 4294967296 * b * 4294967296 + a % 4294967296 * b = a * b := by
    have := congrArg (· * b) e
    simp only [Int.add_mul] at this
    rw [← this, Int.mul_right_comm]
  generalize hu : a / 4294967296 = u at *
  generalize hl : a % 4294967296 = l at *
  have hu0 : 0 ≤ u := by omega
  have hu1 : u ≤ 256 := by omega
  have hl0 : 0 ≤ l := by omega
  have hl1 : l ≤ 4294967295 := by omega
  have m1 := mul_le hu0 hu1 h2 h3
  have m2 := mul_le hl0 hl1 h2 h3
  have m3 := mul_le h0 h1 h2 h3
  have w1 : IntKind.u64.wrap (u * b) = u * b := uw (by omega) (by omega)
  have w0 : IntKind.u64.wrap (l * 0) = 0 := by rw [Int.mul_zero]; exact uw (by omega) (by omega)
  have w2 : IntKind.u64.wrap (u * b + 0) = u * b := by rw [Int.add_zero]; exact w1
  have w3 : IntKind.u64.wrap (u * b * 4294967296) = u * b * 4294967296 := uw (by omega) (by omega)
  have w4 : IntKind.u64.wrap (l * b) = l * b := uw (by omega) (by omega)
  have w5 : IntKind.u64.wrap (u * b * 4294967296 + l * b) = a * b := by rw [e2]; exact uw (by omega) (by omega)
  have q : ((u * b) / 4294967296 != 0) = false := by simp; omega
  have key : nums_Mul.j0 (k + 1) 9223372036854775807 l b (u * b) false = some (a * b) := by
    simp only [nums_Mul.j0, Bool.false_eq_true, if_false, nums_Add.f, w3, w4, w5]
    rw [if_neg (by omega)]
    simp only [Option.bind_some, mn]
    congr 1
    split <;> omega
  unfold nums_Mul.f nums_parts.f
  simp only [Option.bind_some, hu, hl, hb, hb2, w0, w1, w2, q, if_true]
  split <;> exact key

def timeF (t : Int) : Bool := decide (0 ≤ t) && decide (t ≤ 1099511627776)
def weighF (w : Int) : Bool := decide (1 ≤ w) && decide (w ≤ 1048576)
theorem time_f (t : Int) : gcra_time.f t = some (timeF t) := by
  unfold gcra_time.f timeF; by_cases h : t ≥ 0 <;> simp [h, show (0 ≤ t) = (t ≥ 0) from rfl]
theorem time_r (t : Int) : sandglassref10_Time.f t = some (timeF t) := by
  unfold sandglassref10_Time.f timeF; by_cases h : t ≥ 0 <;> simp [h, show (0 ≤ t) = (t ≥ 0) from rfl]
theorem weigh_f (t : Int) : policy_Weighs.f t = some (weighF t) := by
  unfold policy_Weighs.f policy_within_int.f weighF; by_cases h : t ≥ 1 <;> simp [h, show (1 ≤ t) = (t ≥ 1) from rfl]
theorem weigh_r (t : Int) : sandglassref09_Weighs.f t = some (weighF t) := by
  unfold sandglassref09_Weighs.f weighF; by_cases h : t ≥ 1 <;> simp [h, show (1 ≤ t) = (t ≥ 1) from rfl]
theorem time_is {t : Int} : timeF t = true ↔ 0 ≤ t ∧ t ≤ 1099511627776 := by unfold timeF; simp
theorem weigh_is {t : Int} : weighF t = true ↔ 1 ≤ t ∧ t ≤ 1048576 := by unfold weighF; simp

/-- Parts of so many ticks; parts that flow out. -/
theorem of_f (k : Nat) (p q r s : Int) {x : Int} (h0 : 0 ≤ x) (h1 : x ≤ 1099511627776) (h2 : 0 ≤ r) (h3 : r ≤ 1048576) : gcra_of.f (k + 1) p q r s x = some (x * r) := by
  unfold gcra_of.f; rw [uw h0 (by omega), uw h2 (by omega), mul_f k h0 h1 h2 h3]; rfl
theorem out_f (k : Nat) (p q r s : Int) {x : Int} (h0 : 0 ≤ x) (h1 : x ≤ 1099511627776) (h2 : 0 ≤ q) (h3 : q ≤ 1048576) : gcra_out.f (k + 1) p q r s x = some (x * q) := by
  unfold gcra_out.f; rw [uw h0 (by omega), uw h2 (by omega), mul_f k h0 h1 h2 h3]; rfl
theorem above_f {a b : Int} (h0 : 0 ≤ a) (h1 : a ≤ 4611686018427387904) (h2 : 0 ≤ b) : gcra_parts_above.f a b = some (mx 0 (a - b)) := by
  unfold gcra_parts_above.f nums_Sub.f mn mx
  simp only [Option.bind_some]
  congr 1
  split <;> split <;> first | (rw [uw (by omega) (by omega)]; omega) | (rw [uw (by omega) (by omega)])
def up (a q : Int) : Int := if a % q = 0 then a / q else a / q + 1
theorem up_bd {a q : Int} (h0 : 0 ≤ a) (hq : 1 ≤ q) : 0 ≤ up a q ∧ up a q ≤ a := by
  have h := IntWalk.tdiv_le a q h0 hq
  have e := Int.emod_add_mul_ediv a q
  have m := Int.emod_lt_of_pos a (show 0 < q by omega)
  have m0 := Int.emod_nonneg a (show q ≠ 0 by omega)
  unfold up
  split
  · exact h
  · refine ⟨by omega, ?_⟩
    rcases Int.lt_or_eq_of_le h.1 with h1 | h1
    · have := (mul_le (show (0 : Int) ≤ 1 by omega) hq h.1 (Int.le_refl _)).2
      omega
    · rw [← h1] at e ⊢; simp at e; omega
theorem ticks_f {a : Int} (p q r s : Int) (h0 : 0 ≤ a) (h1 : a ≤ 4611686018427387904) (h2 : 1 ≤ q) (h3 : q ≤ 1048576) : gcra_parts_ticks.f a p q r s = some (up a q) := by
  have b := up_bd h0 h2
  have h := IntWalk.tdiv_le a q h0 h2
  have m := Int.emod_lt_of_pos a (show 0 < q by omega)
  have m0 := Int.emod_nonneg a (show q ≠ 0 by omega)
  unfold gcra_parts_ticks.f nums_Up.f
  rw [uw (by omega) (by omega), if_neg (by omega)]
  simp only [Option.bind_some]
  rw [Int.tdiv_eq_ediv_of_nonneg h0, Int.tmod_eq_emod_of_nonneg h0, uw h.1 (by omega)]
  have e : a / q + mn (a % q) 1 = up a q := by unfold up mn; split <;> split <;> omega
  rw [e, uw b.1 (by omega), wr (by omega) (by omega)]
theorem up_r {a q : Int} (h1 : a ≤ 4611686018427387904) (h2 : 1 ≤ q) (h3 : q ≤ 1048576) : sandglassref10_Up.f a q = some (if a ≤ 0 then 0 else up a q) := by
  unfold sandglassref10_Up.f
  split
  · rfl
  · rename_i hp
    have e1 : wrap64 (a + q) = a + q := wr (by omega) (by omega)
    have e2 : wrap64 (a + q - 1) = a + q - 1 := wr (by omega) (by omega)
    rw [if_neg (by omega), e1, e2, Int.tdiv_eq_ediv_of_nonneg (by omega)]
    have e := Int.emod_add_mul_ediv a q
    have m := Int.emod_lt_of_pos a (show 0 < q by omega)
    have m0 := Int.emod_nonneg a (show q ≠ 0 by omega)
    have b := up_bd (show 0 ≤ a by omega) h2
    have key : (a + q - 1) / q = up a q := by
      unfold up
      split
      · rename_i hz
        have : a + q - 1 = (q - 1) + q * (a / q) := by omega
        rw [this, Int.add_mul_ediv_left _ _ (by omega), Int.ediv_eq_zero_of_lt (by omega) (by omega)]; omega
      · have : a + q - 1 = (a % q - 1) + q * (a / q + 1) := by rw [Int.mul_add]; omega
        rw [this, Int.add_mul_ediv_left _ _ (by omega), Int.ediv_eq_zero_of_lt (by omega) (by omega)]; omega
    rw [key, wr (by omega) (by omega)]
theorem refCheck (k : Nat) (a b c d : Int) : sandglassref09_Check.f (k + 3) a b c d = some (if polOk a b c d = true then 0 else 1) := by
  unfold sandglassref09_Check.f polOk withinB
  by_cases h1 : a < 1
  · rw [if_pos h1]; simp [sandglassref09_Check.j0, show ¬ 1 ≤ a by omega]
  rw [if_neg h1]
  by_cases h2 : a > 4
  · rw [if_pos h2]; simp [sandglassref09_Check.j0, show ¬ a ≤ 4 by omega]
  rw [if_neg h2]
  by_cases h3 : b < 1
  · rw [if_pos h3]; simp [sandglassref09_Check.j0, show ¬ 1 ≤ b by omega]
  rw [if_neg h3]
  by_cases h4 : b > 1048576
  · rw [if_pos h4]; simp [sandglassref09_Check.j0, show ¬ b ≤ 1048576 by omega]
  rw [if_neg h4]
  by_cases h5 : c < 1
  · rw [if_pos h5]; simp [sandglassref09_Check.j0, show ¬ 1 ≤ c by omega]
  rw [if_neg h5]
  have e : ∀ (p : Int) (q : Int), (¬ p < q) → decide (q ≤ p) = true := fun p q h => by simp; omega
  have e' : ∀ (p : Int) (q : Int), (¬ p > q) → decide (p ≤ q) = true := fun p q h => by simp; omega
  by_cases h6 : c > 1048576
  · simp [sandglassref09_Check.j0, h6, show ¬ c ≤ 1048576 by omega]
  have h6' : decide (c > 1048576) = false := by simp; omega
  rw [h6', e _ _ h1, e' _ _ h2, e _ _ h3, e' _ _ h4, e _ _ h5, e' _ _ h6]
  simp only [sandglassref09_Check.j0, Bool.false_eq_true, if_false, Bool.and_self, Bool.true_and]
  by_cases h7 : a = 4
  · subst h7
    simp only [if_true, sandglassref09_Check.j1, show ¬ ((4 : Int) = 3) by omega, if_false, exactB]
    by_cases h8 : b > 16
    · simp [h8, show ¬ b ≤ 16 by omega]
    · by_cases h9 : d = 0 <;> simp [h8, h9, show b ≤ 16 by omega]
  · rw [if_neg h7]
    simp only [sandglassref09_Check.j1, Bool.false_eq_true, if_false]
    by_cases h8 : a = 3
    · rw [if_pos h8, if_pos h8]
      unfold ringB withinB
      by_cases h9 : d < 1
      · simp [h9, show ¬ 1 ≤ d by omega, sandglassref09_Check.j2]
      · by_cases h10 : d > 16
        · simp [h9, h10, show ¬ d ≤ 16 by omega, sandglassref09_Check.j2]
        · by_cases h11 : Int.tmod c d = 0 <;> simp [h9, h10, h11, show 1 ≤ d by omega, show d ≤ 16 by omega, show ¬ d = 0 by omega, sandglassref09_Check.j2]
    · rw [if_neg h8, if_neg h8, if_neg h7]
      by_cases h9 : d = 0 <;> simp [h9]
/-- May a cell be? -/
def mayF (k l w b a v : Int) (s : List Int) (h : List S57) : Bool :=
  polOk k l w b && (decide (k = 1) && (timeF a && (decide (0 ≤ v) && (decide (v ≤ l * w) && (decide (s.length = 0) && decide (h.length = 0))))))
theorem pol_is {k l w b : Int} (h : polOk k l w b = true) : 1 ≤ l ∧ l ≤ 1048576 ∧ 1 ≤ w ∧ w ≤ 1048576 := by
  unfold polOk withinB at h
  simp only [Bool.and_eq_true, decide_eq_true_eq] at h
  obtain ⟨⟨⟨_, hl⟩, hw⟩, _⟩ := h
  exact ⟨hl.1, hl.2, hw.1, hw.2⟩
theorem may_f (n : Nat) (k l w b a v : Int) (s : List Int) (h : List S57) (hv : -9223372036854775808 ≤ v ∧ v ≤ 9223372036854775807) : gcra_May.f (n + 2) k l w b a v s h = some (mayF k l w b a v s h) := by
  unfold gcra_May.f policy_Check.f mayF
  simp only [Option.bind_some, time_f]
  cases hp : polOk k l w b
  · simp [gcra_May.j0]
  · have q := pol_is hp
    have m := mul_le (show 0 ≤ l by omega) q.2.1 (show 0 ≤ w by omega) q.2.2.2
    by_cases h1 : k = 1 <;> cases h2 : timeF a <;> by_cases h3 : v < 0 <;> simp [h1, h2, h3, gcra_May.j0, show ¬ (0 ≤ v) ↔ v < 0 by omega, of_f n _ _ _ _ (show 0 ≤ l by omega) (show l ≤ 1099511627776 by omega) (show 0 ≤ w by omega) q.2.2.2]
    · omega
    · rw [uw (by omega) (by omega)]
      by_cases h4 : v ≤ l * w <;> by_cases h5 : s.length = 0 <;> cases h <;> simp [h4, h5, show (0 ≤ v) = True by simp; omega, show ((s.length : Int) = 0) = (s.length = 0) by simp] <;> first | omega | (split <;> simp_all)
theorem may_r (n : Nat) (k l w b a v : Int) (s : List Int) (h : List S57) : sandglassref10_May.f (n + 3) k l w b a v s h = some (mayF k l w b a v s h) := by
  unfold sandglassref10_May.f mayF
  simp only [Option.bind_some, time_r, refCheck]
  cases hp : polOk k l w b
  · simp
  · have q := pol_is hp
    have m := mul_le (show 0 ≤ l by omega) q.2.1 (show 0 ≤ w by omega) q.2.2.2
    rw [wr (x := l * w) (by omega) (by omega)]
    by_cases h1 : k = 1 <;> cases h2 : timeF a <;> by_cases h3 : v ≥ 0 <;> by_cases h4 : v ≤ l * w <;> by_cases h5 : s.length = 0 <;> cases h <;> simp [h1, h2, h3, h4, h5, show (0 ≤ v) = (v ≥ 0) from rfl, show ((s.length : Int) = 0) = (s.length = 0) by simp] <;> omega
theorem may_is {k l w b a v : Int} {s : List Int} {h : List S57} (hm : mayF k l w b a v s h = true) : k = 1 ∧ 1 ≤ l ∧ l ≤ 1048576 ∧ 1 ≤ w ∧ w ≤ 1048576 ∧ 0 ≤ a ∧ a ≤ 1099511627776 ∧ 0 ≤ v ∧ v ≤ l * w ∧ l * w ≤ 1099511627776 ∧ s = [] ∧ h = [] := by
  unfold mayF timeF at hm
  simp only [Bool.and_eq_true, decide_eq_true_eq] at hm
  obtain ⟨hp, hk, ha, h0, h1, hs, hh⟩ := hm
  have q := pol_is hp
  have m := mul_le (show 0 ≤ l by omega) q.2.1 (show 0 ≤ w by omega) q.2.2.2
  exact ⟨hk, q.1, q.2.1, q.2.2.1, q.2.2.2, ha.1, ha.2, h0, h1, by omega, List.length_eq_zero_iff.1 hs, List.length_eq_zero_iff.1 hh⟩
theorem may_to {k l w b a v : Int} {s : List Int} {h : List S57} (hm : mayF k l w b a v s h = true) {a' v' : Int} (h0 : 0 ≤ a') (h1 : a' ≤ 1099511627776) (h2 : 0 ≤ v') (h3 : v' ≤ l * w) : mayF k l w b a' v' [] [] = true := by
  unfold mayF timeF at hm ⊢
  simp only [Bool.and_eq_true, decide_eq_true_eq] at hm ⊢
  exact ⟨hm.1, hm.2.1, ⟨h0, h1⟩, h2, h3, rfl, rfl⟩

/-- The parts that are left at a tick. -/
def lev (l a v t : Int) : Int := mx 0 (v - mx 0 (t - a) * l)
theorem lev_bd {l a v t : Int} (hl : 0 ≤ l) (hv : 0 ≤ v) : 0 ≤ lev l a v t ∧ lev l a v t ≤ v := by
  have m := mx_le 0 (t - a)
  have := Int.mul_nonneg m.1 hl
  unfold lev
  generalize mx 0 (t - a) * l = z at *
  unfold mx; split <;> omega
theorem level_f (n : Nat) (k l w b a v : Int) (s : List Int) (h : List S57) {t : Int} (hl : 0 ≤ l) (hl2 : l ≤ 1048576) (ha : 0 ≤ a) (ha2 : a ≤ 1099511627776) (hv : 0 ≤ v) (hv2 : v ≤ 1099511627776) (ht : 0 ≤ t) (ht2 : t ≤ 1099511627776) :
    gcra_level.f (n + 1) k l w b a v s h t = some (lev l a v t) := by
  have m := mx_le 0 (t - a)
  have m2 := mul_le (show 0 ≤ mx 0 (t - a) by omega) (show mx 0 (t - a) ≤ 1099511627776 by omega) hl hl2
  unfold gcra_level.f lev
  rw [wr (by omega) (by omega), out_f n k l w b (by omega) (by omega) hl hl2]
  simp only [Option.bind_some]
  rw [uw hv (by omega), above_f hv (by omega) m2.1]; rfl
def levV (k l w b a v : Int) (s : List Int) (h : List S57) (t : Int) : Int := if mayF k l w b a v s h && timeF t then lev l a v t else 0
theorem Level_f (n : Nat) (k l w b a v : Int) (s : List Int) (h : List S57) (t : Int) (hv : -9223372036854775808 ≤ v ∧ v ≤ 9223372036854775807) : gcra_Level.f (n + 2) k l w b a v s h t = some (levV k l w b a v s h t) := by
  unfold gcra_Level.f levV
  rw [may_f n _ _ _ _ _ _ _ _ hv, Option.bind_some, time_f]
  cases hm : mayF k l w b a v s h
  · simp [gcra_Level.j0]
  · cases ht : timeF t
    · simp [gcra_Level.j0]
    · obtain ⟨_, l0, l1, w0, w1, a0, a1, v0, v1, m, _, _⟩ := may_is hm
      have tt := time_is.1 ht
      have bd := lev_bd (a := a) (t := t) (show 0 ≤ l by omega) v0
      simp only [gcra_Level.j0, Option.bind_some, if_true, Bool.not_true, Bool.false_eq_true, if_false, Bool.and_self]
      rw [level_f n k l w b a v s h (by omega) l1 a0 a1 v0 (by omega) tt.1 tt.2]
      simp only [Option.bind_some]
      rw [wr (by omega) (by omega)]
theorem Level_r (n : Nat) (k l w b a v : Int) (s : List Int) (h : List S57) (t : Int) : sandglassref10_Level.f (n + 3) k l w b a v s h t = some (levV k l w b a v s h t) := by
  unfold sandglassref10_Level.f levV
  rw [may_r, Option.bind_some, time_r]
  cases hm : mayF k l w b a v s h
  · simp [sandglassref10_Level.j0]
  · cases ht : timeF t
    · simp [sandglassref10_Level.j0]
    · obtain ⟨_, l0, l1, w0, w1, a0, a1, v0, v1, m, _, _⟩ := may_is hm
      have tt := time_is.1 ht
      simp only [sandglassref10_Level.j0, Option.bind_some, if_true, Bool.not_true, Bool.false_eq_true, if_false, Bool.and_self]
      split
      · rename_i hle
        have e : mx 0 (t - a) = 0 := by unfold mx; split <;> omega
        unfold lev; rw [e, Int.zero_mul, Int.sub_zero]; congr 1; unfold mx; split <;> omega
      · rename_i hle
        have e : mx 0 (t - a) = t - a := by unfold mx; split <;> omega
        have m2 := mul_le (show 0 ≤ t - a by omega) (show t - a ≤ 1099511627776 by omega) (show 0 ≤ l by omega) l1
        have e1 : wrap64 (t - a) = t - a := wr (by omega) (by omega)
        have e2 : wrap64 ((t - a) * l) = (t - a) * l := wr (by omega) (by omega)
        have e3 : wrap64 (v - (t - a) * l) = v - (t - a) * l := wr (by omega) (by omega)
        rw [e1, e2, e3]; unfold lev; rw [e]
def ends (k l w b a v : Int) (s : List Int) (h : List S57) : Int := if mayF k l w b a v s h then a + up v l else 0
theorem ends_f (n : Nat) (k l w b a v : Int) (s : List Int) (h : List S57) (hv : -9223372036854775808 ≤ v ∧ v ≤ 9223372036854775807) : gcra_Ends.f (n + 2) k l w b a v s h = some (ends k l w b a v s h) := by
  unfold gcra_Ends.f ends
  rw [may_f n _ _ _ _ _ _ _ _ hv, Option.bind_some]
  cases hm : mayF k l w b a v s h
  · simp
  · obtain ⟨_, l0, l1, w0, w1, a0, a1, v0, v1, m, _, _⟩ := may_is hm
    have u := up_bd v0 l0
    simp only [if_true]
    rw [uw v0 (by omega), ticks_f k l w b v0 (by omega) l0 l1, Option.bind_some, wr (by omega) (by omega)]
theorem up_zero {q : Int} : up 0 q = 0 := by unfold up; simp
theorem up_r' {a q : Int} (h0 : 0 ≤ a) (h1 : a ≤ 4611686018427387904) (h2 : 1 ≤ q) (h3 : q ≤ 1048576) : sandglassref10_Up.f a q = some (up a q) := by
  rw [up_r h1 h2 h3]
  split
  · have : a = 0 := by omega
    rw [this, up_zero]
  · rfl
theorem ends_r (n : Nat) (k l w b a v : Int) (s : List Int) (h : List S57) : sandglassref10_Ends.f (n + 3) k l w b a v s h = some (ends k l w b a v s h) := by
  unfold sandglassref10_Ends.f ends
  rw [may_r, Option.bind_some]
  cases hm : mayF k l w b a v s h
  · simp
  · obtain ⟨_, l0, l1, w0, w1, a0, a1, v0, v1, m, _, _⟩ := may_is hm
    have u := up_bd v0 l0
    simp only [if_true]
    rw [up_r' v0 (by omega) l0 l1, Option.bind_some, wr (by omega) (by omega)]
/-- What Ask tells and leaves: tick, parts, sums, hits; let in, remaining, retry, reset. -/
def askF (l w a v t x : Int) : Int × Int × List Int × List S57 × Bool × Int × Int × Int :=
  let n := lev l a v (mx t a)
  if n + x * w ≤ l * w then (mx t a, n + x * w, [], [], true, (l * w - (n + x * w)) / w, 0, up (n + x * w) l)
  else (mx t a, n, [], [], false, (l * w - n) / w, if x > l then 2199023255552 else up (n + x * w - l * w) l, up n l)
def askV (k l w b a v : Int) (s : List Int) (h : List S57) (t x : Int) : Int × Int × List Int × List S57 × Bool × Int × Int × Int :=
  if mayF k l w b a v s h && timeF t && weighF x then askF l w a v t x else (a, v, s, h, false, 0, 0, 0)
theorem ask_f (n : Nat) (k l w b a v : Int) (s : List Int) (h : List S57) (t x : Int) (hv : -9223372036854775808 ≤ v ∧ v ≤ 9223372036854775807) : gcra_Ask.f (n + 3) k l w b a v s h t x = some (askV k l w b a v s h t x) := by
  unfold gcra_Ask.f askV
  rw [may_f (n + 1) _ _ _ _ _ _ _ _ hv, Option.bind_some, time_f, weigh_f]
  cases hm : mayF k l w b a v s h
  · simp [gcra_Ask.j0]
  · cases ht : timeF t
    · simp [gcra_Ask.j0]
    · cases hx : weighF x
      · simp [gcra_Ask.j0]
      · obtain ⟨_, l0, l1, w0, w1, a0, a1, v0, v1, m, _, _⟩ := may_is hm
        have tt := time_is.1 ht
        have xx := weigh_is.1 hx
        have mm := mx_le t a
        have bd := lev_bd (a := a) (t := mx t a) (show 0 ≤ l by omega) v0
        have mw := mul_le (show 0 ≤ x by omega) xx.2 (show 0 ≤ w by omega) w1
        simp only [gcra_Ask.j0, Option.bind_some, if_true, Bool.not_true, Bool.false_eq_true, if_false, Bool.and_self]
        rw [level_f (n + 1) k l w b a v s h (by omega) l1 a0 a1 v0 (by omega) (by omega) (by omega), of_f (n + 1) _ _ _ _ (by omega) (by omega) (by omega) w1, of_f (n + 1) _ _ _ _ (by omega) (by omega) (by omega) w1]
        simp only [Option.bind_some]
        unfold askF
        generalize lev l a v (mx t a) = z at *
        generalize x * w = y at *
        generalize hM : l * w = M at *
        rw [uw (x := z + y) (by omega) (by omega)]
        have j1 : ∀ (q : Int) (b1 : Bool) (i1 i2 i3 : Int), 0 ≤ q → q ≤ M → gcra_Ask.j1 (n + 2) (mx t a) q M k l w b b1 i1 i2 i3 = some (mx t a, q, [], [], b1, (M - q) / w, i2, up q l) := by
          intro q b1 i1 i2 i3 q0 q1
          have u := up_bd q0 l0
          have d := IntWalk.tdiv_le (M - q) w (by omega) w0
          simp only [gcra_Ask.j1]
          rw [if_neg (by omega), ticks_f k l w b q0 (by omega) l0 l1, Option.bind_some, uw (x := M - q) (by omega) (by omega), wr (x := M - q) (by omega) (by omega), wr (x := q) (by omega) (by omega), Int.tdiv_eq_ediv_of_nonneg (by omega), wr (x := (M - q) / w) (by omega) (by omega)]
        by_cases c : z + y ≤ M
        · rw [if_pos c, if_pos c, j1 _ _ _ _ _ (by omega) c]
        · rw [if_neg c, if_neg c]
          by_cases c2 : x > l
          · rw [if_pos c2, if_pos c2, j1 _ _ _ _ _ (by omega) (by omega)]
          · rw [if_neg c2, if_neg c2, above_f (by omega) (by omega) (by omega), Option.bind_some]
            have e : mx 0 (z + y - M) = z + y - M := by unfold mx; split <;> omega
            rw [e, ticks_f k l w b (by omega) (by omega) l0 l1, Option.bind_some, j1 _ _ _ _ _ (by omega) (by omega)]
end Go.Proofs.Ytpeljhmbaibjcaa.La


namespace Go.Proofs.Ytpeljhmbaibjcaa.La
open Go.RowKit Go.Proofs.YtpeljhmbaibjcaaW.PrintWords Go.Proofs.YtpeljhmbaibjcaaW.PrintLast Go.Proofs.YtpeljhmbaibjcaaW.PrintMore Go.Proofs.Ytpeljhmbaibjcaa.Q
set_option linter.unusedSimpArgs false
set_option linter.unusedVariables false
/-- A cell is the same as itself. -/
theorem same_l1 (n : Nat) (c1 c2 d1 d2 : Int) (s s' : List Int) (h : List S57) (d : Nat) : ∀ (i : Int), 0 ≤ i → (h.length : Int) - i ≤ d → h.length ≤ 40 → d < n → sandglassref10_Same.l1 n i c1 c2 s h d1 d2 s' h = some true := by
  induction n generalizing d with
  | zero => intro i _ _ _ hd; omega
  | succ n ih =>
    intro i h0 h1 h2 hd
    simp only [sandglassref10_Same.l1]
    by_cases h3 : i < (h.length : Int)
    · rw [if_pos h3, if_pos h0, if_pos h3]
      simp only [BEq.rfl, Bool.not_true, Bool.or_self, Bool.false_eq_true, if_false]
      rw [wr (by omega) (by omega)]
      exact ih (d - 1) (i + 1) (by omega) (by omega) h2 (by omega)
    · rw [if_neg h3]
theorem same_l0 (n : Nat) (c1 c2 d1 d2 : Int) (s : List Int) (h : List S57) (d : Nat) : ∀ (i : Int), 0 ≤ i → (s.length : Int) - i ≤ d → s.length ≤ 40 → h.length ≤ 40 → d + 42 < n → sandglassref10_Same.l0 n i c1 c2 s h d1 d2 s h = some true := by
  induction n generalizing d with
  | zero => intro i _ _ _ _ hd; omega
  | succ n ih =>
    intro i h0 h1 h2 h2' hd
    simp only [sandglassref10_Same.l0]
    by_cases h3 : i < (s.length : Int)
    · rw [if_pos h3, if_pos h0, if_pos h3, if_pos trivial, wr (by omega) (by omega)]
      exact ih (d - 1) (i + 1) (by omega) (by omega) h2 h2' (by omega)
    · rw [if_neg h3]
      exact same_l1 n c1 c2 d1 d2 s s h 40 0 (by omega) (by omega) h2' (by omega)
theorem same_refl (n : Nat) (a v : Int) (s : List Int) (h : List S57) (hs : s.length ≤ 40) (hh : h.length ≤ 40) : sandglassref10_Same.f (n + 100) a v s h a v s h = some true := by
  unfold sandglassref10_Same.f
  rw [if_pos rfl, if_pos rfl, if_pos rfl, show n + 100 = (n + 99) + 1 by omega]
  simp only [sandglassref10_Same.j0, bne_self_eq_false, Bool.false_eq_true, if_false]
  exact same_l0 _ _ _ _ _ _ _ 40 0 (by omega) (by omega) hs hh (by omega)
theorem few_f (a v : Int) (s : List Int) (h : List S57) : sandglassref10_Few.f a v s h = some (decide (s.length ≤ 40) && decide (h.length ≤ 40)) := by
  unfold sandglassref10_Few.f
  by_cases h1 : (s.length : Int) ≤ 40
  · have : s.length ≤ 40 := by omega
    rw [if_pos h1]; simp [this]; omega
  · have : ¬ s.length ≤ 40 := by omega
    rw [if_neg h1]; simp [this]
theorem same_refl' {n : Nat} (hn : 100 ≤ n) (a v : Int) (s : List Int) (h : List S57) (hs : s.length ≤ 40) (hh : h.length ≤ 40) : sandglassref10_Same.f n a v s h a v s h = some true := by
  obtain ⟨m, rfl⟩ : ∃ m, n = m + 100 := ⟨n - 100, by omega⟩
  exact same_refl _ _ _ _ _ hs hh
theorem live_ok : sandglasslaw10_live.f 40 = some true := by decide +kernel
theorem live_up (n : Nat) : sandglasslaw10_live.f (40 + n) = some true := by
  induction n with
  | zero => exact live_ok
  | succ n ih => exact sandglasslaw10_live.mono (40 + n) _ ih
theorem live_at {n : Nat} (h : 40 ≤ n) : sandglasslaw10_live.f n = some true := by
  have := live_up (n - 40)
  rwa [show 40 + (n - 40) = n by omega] at this
theorem i64_is {v : Int} (h : (Lit.int .i64 v).wf = true) : -9223372036854775808 ≤ v ∧ v ≤ 9223372036854775807 := by
  simp [Lit.wf, IntKind.min, IntKind.max, IntKind.signed, IntKind.bits] at h
  omega
end Go.Proofs.Ytpeljhmbaibjcaa.La


namespace Go.Proofs.Ytpeljhmbaibjcaa.gcraRate
open Go.RowKit Go.Proofs.YtpeljhmbaibjcaaW.PrintWords Go.Proofs.YtpeljhmbaibjcaaW.PrintLast Go.Proofs.YtpeljhmbaibjcaaW.PrintMore Go.Proofs.Ytpeljhmbaibjcaa.Q
def Pure : Prop := ∀ (a0_0 : Int) (a0_1 : Int) (a0_2 : Int) (a0_3 : Int) (a1 : List S45), (Lit.int .i64 a0_0).wf = true → (Lit.int .i64 a0_1).wf = true → (Lit.int .i64 a0_2).wf = true → (Lit.int .i64 a0_3).wf = true → (a1.length ≤ maxLen ∧ ∀ x ∈ a1, ((Lit.int .i64 x.f0).wf = true ∧ (Lit.int .i64 x.f1).wf = true)) → ∃ k, sandglasslaw10_GcraRate.f k a0_0 a0_1 a0_2 a0_3 a1 = some true
end Go.Proofs.Ytpeljhmbaibjcaa.gcraRate


namespace Go.Proofs.Ytpeljhmbaibjcaa.gcraRate
open Go.RowKit Go.Proofs.YtpeljhmbaibjcaaW.PrintWords Go.Proofs.YtpeljhmbaibjcaaW.PrintLast Go.Proofs.YtpeljhmbaibjcaaW.PrintMore Go.Proofs.Ytpeljhmbaibjcaa.Q Go.Proofs.Ytpeljhmbaibjcaa.La
set_option linter.unusedSimpArgs false
set_option linter.unusedVariables false
theorem ask_is {k l w b a v : Int} {s : List Int} {h : List S57} (hm : mayF k l w b a v s h = true) {t x : Int} (ht : timeF t = true) (hx : weighF x = true) : askV k l w b a v s h t x = askF l w a v t x := by
  unfold askV; rw [hm, ht, hx]; rfl
/-- What holds of the ticks and the weights so far. -/
structure Ok (l w : Int) (T U : List Int) (n t : Int) : Prop where
  len : U.length = T.length
  tb : ∀ j, j < T.length → 0 ≤ rd T j ∧ rd T j ≤ t
  ub : ∀ u ∈ U, 0 ≤ u ∧ u ≤ 1048576
  win : ∀ j : Nat, j < T.length → (U.drop j).sum * w ≤ n + l * (t - rd T j)
theorem sum_bd (U : List Int) (h : ∀ u ∈ U, 0 ≤ u ∧ u ≤ 1048576) : 0 ≤ U.sum ∧ U.sum ≤ U.length * 1048576 := by
  induction U with
  | nil => simp
  | cons a U ih =>
    have h1 := h a (by simp)
    have h2 := ih (fun u hu => h u (by simp [hu]))
    simp only [List.sum_cons, List.length_cons]
    omega
theorem rd_at (U : List Int) (j : Nat) (h : j < U.length) : rd U j = U[j] := by unfold rd; simp [h]
theorem drop_sum (U : List Int) (j : Nat) (h : j < U.length) : (U.drop j).sum = rd U j + (U.drop (j + 1)).sum := by
  rw [List.drop_eq_getElem_cons h, List.sum_cons, rd_at U j h]
theorem loop {l w t n : Int} (b : Int) (L : List S45) {T U : List Int} (i : Int) (ok : Ok l w T U n t) (hl : 0 ≤ l) (hl2 : l ≤ 1048576) (hw : 0 ≤ w) (hw2 : w ≤ 1048576) (hn : n ≤ l * w) (hT : T.length ≤ 41) (ht : t ≤ 1099511627776) :
    ∀ (j : Nat), j ≤ T.length → ∀ fuel, sandglasslaw10_GcraRate.l1 (fuel + j + 1) L t T U i ((U.drop j).sum) ((j : Int) - 1) 1 l w b t n [] [] = sandglasslaw10_GcraRate.l0 fuel L t T U (wrap64 (i + 1)) 1 l w b t n [] [] := by
  intro j
  induction j with
  | zero =>
    intro _ fuel
    simp only [Nat.add_zero, sandglasslaw10_GcraRate.l1]
    rw [if_neg (by omega)]
  | succ j ih =>
    intro hj fuel
    have e : ((j + 1 : Nat) : Int) - 1 = j := by omega
    have hU := ok.len
    have ds := drop_sum U j (by omega)
    have sb := sum_bd (U.drop j) (fun u hu => ok.ub u (List.mem_of_mem_drop hu))
    have sb2 := sum_bd (U.drop (j + 1)) (fun u hu => ok.ub u (List.mem_of_mem_drop hu))
    rw [List.length_drop] at sb sb2
    have tb := ok.tb j (by omega)
    have wn := ok.win j (by omega)
    have m1 := mul_le hl hl2 hw hw2
    have m2 := mul_le hl hl2 (show 0 ≤ t - rd T j by omega) (show t - rd T j ≤ 1099511627776 by omega)
    have m3 := mul_le (show 0 ≤ (U.drop j).sum by omega) (show (U.drop j).sum ≤ 41 * 1048576 by omega) hw hw2
    rw [e, show fuel + (j + 1) + 1 = (fuel + j + 1) + 1 by omega]
    have ih2 := ih (by omega) fuel
    generalize fuel + j + 1 = g at ih2 ⊢
    simp only [sandglasslaw10_GcraRate.l1]
    rw [if_pos (by omega), if_pos (by omega), if_pos (by omega), if_pos (by omega), show (U.drop (j + 1)).sum + rd U j = (U.drop j).sum by omega, wr (x := (U.drop j).sum) (by omega) (by omega), wr (x := t - rd T j) (by omega) (by omega), wr (x := l * w) (by omega) (by omega), wr (x := l * (t - rd T j)) (by omega) (by omega), wr (x := (U.drop j).sum * w) (by omega) (by omega), wr (x := l * w + l * (t - rd T j)) (by omega) (by omega), wr (x := (j : Int) - 1) (by omega) (by omega), if_neg (by omega)]
    exact ih2
theorem step {l w n t d u m n2 : Int} {T U : List Int} (ok : Ok l w T U n t) (hl : 0 ≤ l) (hd : 0 ≤ d) (ht : 0 ≤ t) (hu : 0 ≤ u ∧ u ≤ 1048576) (hm0 : 0 ≤ m) (hm : n - d * l ≤ m) (hn2 : n2 = m + u * w) : Ok l w (T ++ [t + d]) (U ++ [u]) n2 (t + d) := by
  have hU := ok.len
  have rl : ∀ j, j < T.length → rd (T ++ [t + d]) j = rd T j := by
    intro j hj
    rw [rd_at _ _ (by simp; omega), rd_at _ _ hj, List.getElem_append_left hj]
  have rr : rd (T ++ [t + d]) T.length = t + d := by
    rw [rd_at _ _ (by simp)]; simp
  refine ⟨by simp [hU], ?_, ?_, ?_⟩
  · intro j hj
    rw [List.length_append, List.length_singleton] at hj
    rcases Nat.lt_or_ge j T.length with h | h
    · have := ok.tb j h
      rw [rl j h]; omega
    · have : j = T.length := by omega
      subst this
      rw [rr]; omega
  · intro x hx
    rcases List.mem_append.1 hx with h | h
    · exact ok.ub x h
    · rw [List.mem_singleton.1 h]; exact hu
  · intro j hj
    rw [List.length_append, List.length_singleton] at hj
    rcases Nat.lt_or_ge j T.length with h | h
    · have := ok.win j h
      rw [rl j h, List.drop_append_of_le_length (by omega), List.sum_append, Int.add_mul, hn2]
      have e : l * (t + d - rd T j) = l * (t - rd T j) + d * l := by
        rw [show t + d - rd T j = (t - rd T j) + d by omega, Int.mul_add, Int.mul_comm l d]
      rw [e]
      have e2 : [u].sum = u := by simp
      rw [e2]; omega
    · have : j = T.length := by omega
      subst this
      rw [rr, ← hU, List.drop_left, hn2, Int.sub_self, Int.mul_zero]
      have e2 : [u].sum = u := by simp
      rw [e2]; omega
theorem rate (l w b : Int) (l1 : List S45) (hp : polOk 1 l w b = true) (hw : 1 ≤ w) (hw2 : w ≤ 1048576) (hl : 1 ≤ l) (hl2 : l ≤ 1048576) (hlen : l1.length ≤ 40) (N : Nat) : ∀ (i t n : Int) (T U : List Int), 0 ≤ i → (T.length : Int) = i → (l1.length : Int) - i ≤ N → 0 ≤ t → t ≤ i * 1048576 → i ≤ 40 →
    0 ≤ n → n ≤ l * w → Ok l w T U n t → ∀ f, 60 * N + 100 ≤ f → sandglasslaw10_GcraRate.l0 f l1 t T U i 1 l w b t n [] [] = some true := by
  induction N with
  | zero =>
    intro i t n T U h0 hi h1 h2 h3 h4 h5 h6 ok f hf
    obtain ⟨f, rfl⟩ : ∃ m, f = m + 1 := ⟨f - 1, by omega⟩
    simp only [sandglasslaw10_GcraRate.l0]
    rw [if_neg (by omega), live_at (by omega)]; rfl
  | succ N ih =>
    intro i t n T U h0 hTi h1 h2 h3 h4 h5 h6 ok f hf
    obtain ⟨f, rfl⟩ : ∃ m, f = m + 5 := ⟨f - 5, by omega⟩
    simp only [sandglasslaw10_GcraRate.l0]
    by_cases hi : i < (l1.length : Int)
    · rw [if_pos hi, if_pos h0]
      generalize hx : rd_T45 l1 i = x
      have T0 : sandglasslaw10_GcraRate.j2 (f + 4) l1 t T U i true 1 l w b t n [] [] = some true := by
        simp only [sandglasslaw10_GcraRate.j2, if_true, live_at (show 40 ≤ f + 3 by omega), Option.bind_some]
      by_cases hb1 : x.f0 < 0
      · rw [if_pos hb1, T0]
      rw [if_neg hb1]
      by_cases hb2 : x.f0 > 1048576
      · rw [if_pos hb2, T0]
      rw [if_neg hb2, weigh_r]
      simp only [Option.bind_some]
      cases hwx : weighF x.f1
      · exact T0
      have hwx' := weigh_is.1 hwx
      have ht : t + x.f0 ≤ (i + 1) * 1048576 := by omega
      have htt : timeF (t + x.f0) = true := time_is.2 (by omega)
      have m1 := mul_le (show 0 ≤ l by omega) hl2 (show 0 ≤ w by omega) hw2
      have m2 := mul_le (show 0 ≤ x.f1 by omega) hwx'.2 (show 0 ≤ w by omega) hw2
      have m3 := mul_le (show 0 ≤ x.f0 by omega) (show x.f0 ≤ 1048576 by omega) (show 0 ≤ l by omega) hl2
      have hm : mayF 1 l w b t n [] [] = true := by
        unfold mayF; rw [hp, time_is.2 (show 0 ≤ t ∧ t ≤ 1099511627776 by omega)]; simp [h5, h6]
      have hmx : mx (t + x.f0) t = t + x.f0 := by unfold mx; split <;> omega
      have A : gcra_Ask.f (f + 3) 1 l w b t n [] [] (t + x.f0) x.f1 = some (askF l w t n (t + x.f0) x.f1) := (ask_f f 1 l w b t n [] [] (t + x.f0) x.f1 (by omega)).trans (congrArg some (ask_is hm htt hwx))
      have bd := lev_bd (a := t) (t := t + x.f0) (show 0 ≤ l by omega) h5
      have lo : n - x.f0 * l ≤ lev l t n (t + x.f0) := by
        have e : mx 0 (t + x.f0 - t) = x.f0 := by unfold mx; split <;> omega
        unfold lev; rw [e]; exact (mx_le _ _).2.1
      -- the round's end: the windows are looked at, and the loop goes on
      have R : ∀ u n2, 0 ≤ u ∧ u ≤ 1048576 → n2 = lev l t n (t + x.f0) + u * w → n2 ≤ l * w → 0 ≤ n2 → sandglasslaw10_GcraRate.j3 (f + 3) l1 (t + x.f0) (T ++ [t + x.f0]) (U ++ [u]) i 1 l w b (t + x.f0) n2 [] [] = some true := by
        intro u n2 hu he h7 h8
        have ok2 := step ok (show 0 ≤ l by omega) (show 0 ≤ x.f0 by omega) h2 hu bd.1 lo he
        have lp := loop b l1 i ok2 (by omega) hl2 (by omega) hw2 h7 (by simp; omega) (by omega) (T.length + 1) (by simp)
        have e0 : ((U ++ [u]).drop (T.length + 1)).sum = 0 := by
          rw [List.drop_eq_nil_of_le (by have := ok.len; simp; omega)]; rfl
        have e1 : ((T.length + 1 : Nat) : Int) - 1 = i := by omega
        rw [e0, e1] at lp
        obtain ⟨g, hg⟩ : ∃ g, f + 2 = g + (T.length + 1) + 1 := ⟨f + 2 - (T.length + 1) - 1, by omega⟩
        simp only [sandglasslaw10_GcraRate.j3]
        rw [hg, lp g, wr (by omega) (by omega)]
        exact ih (i + 1) (t + x.f0) n2 _ _ (by omega) (by simp; omega) (by omega) (by omega) ht (by omega) h8 h7 ok2 g (by omega)
      simp only [sandglasslaw10_GcraRate.j2, Bool.not_true, Bool.false_eq_true, if_false]
      have hU := ok.len
      rw [if_pos h0, if_pos hi, hx, wr (x := t + x.f0) (by omega) (by omega), A, Option.bind_some, if_pos (by omega), Option.bind_some]
      unfold askF
      dsimp only
      rw [hmx]
      by_cases h10 : lev l t n (t + x.f0) + x.f1 * w ≤ l * w
      · rw [if_pos h10]
        simp only [if_true]
        rw [if_pos (by omega)]
        exact R x.f1 _ ⟨by omega, by omega⟩ rfl h10 (by omega)
      · rw [if_neg h10]
        simp only [Bool.false_eq_true, if_false]
        rw [if_pos (by omega)]
        exact R 0 _ ⟨by omega, by omega⟩ (by rw [Int.zero_mul, Int.add_zero]) (by omega) (by omega)
    · rw [if_neg hi, live_at (by omega)]; rfl
theorem pure : Pure := by
  intro k l w b l1 _ _ _ _ _
  refine ⟨3000, ?_⟩
  have T : ∀ x0 x1 x2 x3, sandglasslaw10_GcraRate.j0 3000 l1 true x0 x1 x2 x3 = some true := by
    intros
    simp only [show (3000 : Nat) = 2999 + 1 by omega, sandglasslaw10_GcraRate.j0, if_true, live_at (show 40 ≤ 2999 by omega), Option.bind_some]
  unfold sandglasslaw10_GcraRate.f
  rw [show sandglassref09_Check.f 3000 k l w b = some (if polOk k l w b = true then 0 else 1) from refCheck 2997 k l w b]
  simp only [T, Option.bind_some]
  by_cases h1 : (l1.length : Int) > 40
  · rw [if_pos h1]
  rw [if_neg h1]
  cases hp : polOk k l w b
  · simp
  simp only [if_true]
  by_cases hk : k = 1
  · subst hk
    have q := pol_is hp
    simp only [bne_self_eq_false, show (3000 : Nat) = 2999 + 1 by omega, sandglasslaw10_GcraRate.j0, Bool.false_eq_true, if_false]
    have m1 := mul_le (show 0 ≤ l by omega) q.2.1 (show 0 ≤ w by omega) q.2.2.2
    exact rate l w b l1 hp q.2.2.1 q.2.2.2 q.1 q.2.1 (by omega) 40 0 0 0 [] [] (by omega) rfl (by omega) (by omega) (by omega) (by omega) (by omega) m1.1 ⟨rfl, fun j h => by simp at h, fun u h => by simp at h, fun j h => by simp at h⟩ 2999 (by omega)
  · rw [show (k != 1) = true by simpa using hk, T]
end Go.Proofs.Ytpeljhmbaibjcaa.gcraRate


namespace Go.Proofs.Ytpeljhmbaibjcaa.gcraRate
open Go.ChangeShapes Go.WideShapes Go.ChangeAt Go.RowKit
open Go.Proofs.Ytpeljhmbaibjcaa.Op Go.Proofs.YtpeljhmbaibjcaaW.PrintWords Go.Proofs.Ytpeljhmbaibjcaa.Q
set_option linter.unusedVariables false
theorem own : ownKnob Try.prog.godebug = none := by kernel_rfl
theorem laidOut : laidOutB Try.prog = true := by kernel_rfl
instance : Inhabited S45 := ⟨z45⟩
set_option maxRecDepth 100000 in
set_option maxHeartbeats 2000000 in
theorem lifted (os : Os) (started : os.Started) (H : Type) (enc : TypeId × Value → H) :
    ReturnsInHanded {} Try.checked os 6 .any (Rows.gcraRateSpec.pre6 enc Try.prog Try.f6 Rows.gcraRateRow.domain false) (Rows.gcraRateSpec.post enc Try.prog Try.f6 false true false false) := by
  refine returnsInHanded_of_change_sized (C := Try.checked) own started (by kernel_rfl) Try.func6
    (ChangeSpec.witness6 (enc := enc) (C := Try.checked) false ⟨#[], #[.agg #[.int .i64 0, .int .i64 0, .int .i64 0, .int .i64 0], .slice none 0 0], []⟩ 8 (by kernel_rfl) (by kernel_rfl) (by kernel_rfl) (by kernel_rfl)) ?_
  intro W base args ds gs before hval0 hW hcnd hsz0 _
  have hval : ∀ (j : Nat) t v, Try.f6.params[j]? = some t → args[j]? = some v → Value.okWide Try.prog W .any base t v := hval0
  have hW' := hW
  obtain ⟨p, q, hA0, hV, rfl, hfz, hnd⟩ := hW
  have hA : DataW.TrodAll enc Try.prog W 0 (fun _ => true) true Try.f6.params.toList args.toList ds p := hA0
  rw [Try.params6] at hA hval
  obtain ⟨v0, vs0, d0, ds0, p0, q0, hargs, rfl, rfl, h0, r0⟩ := trodAll_cons hA
  obtain ⟨v1, vs1, d1, ds1, p1, q1, rfl, rfl, rfl, h1, r1⟩ := trodAll_cons r0
  obtain ⟨rfl, rfl, rfl⟩ := trodAll_nil r1
  obtain rfl : args = #[v0, v1] := by cases args; simp_all
  obtain ⟨rfl, rfl⟩ := trodVars_none hV
  have k0 := h0
  obtain ⟨fu0, hf0⟩ := h0
  obtain ⟨cs0, rfl, _⟩ := okWide_struct Try.underlying23 (hval 0 23 v0 rfl rfl)
  obtain ⟨⟨a0_0, a0_1, a0_2, a0_3⟩, hK0, ⟨oka0_0, oka0_1, oka0_2, oka0_3⟩⟩ := ((Opens.struct Try.underlying23 (by kernel_rfl) (OpensG.cons (Opens.int Try.underlying3) (by kernel_rfl) (by kernel_rfl) (OpensG.cons (Opens.int Try.underlying3) (by kernel_rfl) (by kernel_rfl) (OpensG.cons (Opens.int Try.underlying3) (by kernel_rfl) (by kernel_rfl) (OpensG.one (Opens.int Try.underlying3) (by kernel_rfl) (by kernel_rfl))))))).out hf0
  obtain ⟨_, _, hcsa0, rfl, ⟨_, _, rfl, rfl, ⟨_, _, rfl, rfl, rfl⟩⟩⟩ := hK0
  obtain rfl := agg_of hcsa0
  have k1 := h1
  obtain ⟨fu1, hf1⟩ := h1
  obtain ⟨va1, vn1, vc1, rfl⟩ := okWide_slice Try.underlying41 (hval 1 41 v1 rfl rfl)
  obtain ⟨a1, ⟨Aa1, ca1, hcsa1, hca1, hra1⟩, oka1⟩ := ((Opens.slice Try.underlying41 (Opens.iso (Opens.struct Try.underlying45 (by kernel_rfl) (OpensG.cons (Opens.int Try.underlying3) (by kernel_rfl) (by kernel_rfl) (OpensG.one (Opens.int Try.underlying3) (by kernel_rfl) (by kernel_rfl)))) (fun x : S45 => (x.f0, x.f1)) (fun y => (⟨y.1, y.2⟩ : S45)) (fun _ => rfl)) (by kernel_rfl))).out hf1
  obtain ⟨e1_, e2_, e3_⟩ := slice_of hcsa1
  subst va1; subst vn1; subst vc1
  clear hA0 hval0 hsz0
  obtain ⟨k, hp⟩ := pure a0_0 a0_1 a0_2 a0_3 a1 oka0_0 oka0_1 oka0_2 oka0_3 oka1
  refine (sandglasslaw10_GcraRate.calls k a0_0 a0_1 a0_2 a0_3 Aa1 ca1 a1 true W hra1 hca1 hp).mono fun e W' ⟨he, bel0⟩ => ?_
  have bel : Below W.heap.size W W' := bel0
  subst he
  exact ⟨_, rfl, _, _, _, [], _, [], hW', trodAll_mk1 (shut_bool Try.underlying4 _), (trodAll_cons_mk (Below.trod laidOut (by kernel_rfl) (of_decide_eq_true (by kernel_rfl)) k0 bel (trod_lt_all k0)) (trodAll_cons_mk (Below.trod laidOut (by kernel_rfl) (of_decide_eq_true (by kernel_rfl)) k1 bel (trod_lt_all k1)) trodAll_mk0)), rfl, bel.frame _, fun h => by cases h⟩
theorem over : Rows.gcraRateRow.holds Try.pinned (OpenSpec.ofChange Rows.gcraRateSpec) :=
  OpenClaim.holds_of_wide 6 Try.f6 rfl rfl rfl rfl rfl rfl rfl ⟨rfl, rfl, rfl, rfl, rfl⟩ rfl rfl rfl rfl rfl (by kernel_rfl) Try.func6 (by kernel_rfl)
    (of_decide_eq_true (by kernel_rfl)) (by unfold Func.isWrapper; first | (rw [if_pos (by decide +kernel)]; kernel_rfl) | (rw [if_neg (by decide +kernel)]; exact ⟨rfl, rfl⟩))
    (fun os started H enc _ => lifted os started H enc)
end Go.Proofs.Ytpeljhmbaibjcaa.gcraRate
namespace Go.Proofs.Ytpeljhmbaibjcaa
/-- The statement. -/
theorem gcraRate_holds : Rows.GcraRateSaid := gcraRate.over
#print axioms gcraRate_holds
end Go.Proofs.Ytpeljhmbaibjcaa

