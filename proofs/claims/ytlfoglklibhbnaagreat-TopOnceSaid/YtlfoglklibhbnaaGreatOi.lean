/- Parameters of numbers alone (structs, arrays, both in one another): what came in is a row of ints. -/
import Derived.Test.YtlfoglklibhbnaaGreatCm
import Derived.OpenShut
import Derived.ProofKit
set_option linter.unusedVariables false
namespace Go.Proofs.YtlfoglklibhbnaaGreat.Oi
open Go.ChangeShapes Go.WideShapes Go.ChangeAt Go.RowKit

def fieldsT (Q : TypeId → Nat → Prop) : List Field → Nat → Nat → Prop
  | [], o, n => o = n
  | f :: fs, o, n => ∃ m, f.offset = o ∧ Q f.type m ∧ fieldsT Q fs (o + m) n
/-- Such a type's values are n ints. -/
def IntT (P : Program) : Nat → TypeId → Nat → Prop
  | 0, t, n => P.underlying t = some (.int .i64) ∧ P.cellsOf t = 1 ∧ n = 1
  | d + 1, t, n => P.cellsOf t = n ∧ ((P.underlying t = some (.int .i64) ∧ n = 1) ∨
      (∃ fs : List Field, P.underlying t = some (.struct fs.toArray) ∧ fieldsT (IntT P d) fs 0 n) ∨ (∃ k e m, P.underlying t = some (.array k e) ∧ IntT P d e m ∧ n = k * m))

section
variable {H : Type} {enc : TypeId × Value → H} {P : Program} {w : World} {base : Nat} {spare : Nat → Bool} {held : Bool}

theorem IntT.cells : ∀ {d : Nat} {t : TypeId} {n : Nat}, IntT P d t n → P.cellsOf t = n
  | 0, t, n, h => by rw [h.2.1, h.2.2]
  | d + 1, t, n, h => h.1

theorem ints_fields {Q : TypeId → Nat → Prop} (hQ : ∀ t n, Q t n → P.cellsOf t = n ∧ ∀ (cs : List Value) x fuel, DataW.trod enc P w base spare held fuel t cs = some x → ∃ l : List Int, cs = l.map (Value.int .i64) ∧ ∀ a ∈ l, I a) :
    ∀ (fs : List Field) (o n : Nat) (cs : List Value), fieldsT Q fs o n → cs.length = n →
    (∀ (i : Nat) (f : Field), fs[i]? = some f → ∃ x fuel, DataW.trod enc P w base spare held fuel f.type ((cs.drop f.offset).take (P.cellsOf f.type)) = some x) → ∃ l : List Int, cs.drop o = l.map (Value.int .i64) ∧ ∀ a ∈ l, I a
  | [], o, n, cs, h, hl, hx => ⟨[], by rw [List.drop_eq_nil_of_le (by have : o = n := h; omega)]; rfl, by simp⟩
  | f :: fs, o, n, cs, h, hl, hx => by
    obtain ⟨m, h1, h2, h3⟩ := h
    obtain ⟨x, fuel, h4⟩ := hx 0 f rfl
    obtain ⟨hc, hq⟩ := hQ _ _ h2
    rw [h1, hc] at h4
    obtain ⟨l1, e1, i1⟩ := hq _ _ _ h4
    obtain ⟨l2, e2, i2⟩ := ints_fields hQ fs (o + m) n cs h3 hl (fun i g hg => hx (i + 1) g (by simpa using hg))
    refine ⟨l1 ++ l2, ?_, fun a ha => ?_⟩
    · rw [List.map_append, ← e1, ← e2, ← List.drop_drop, List.take_append_drop]
    · rcases List.mem_append.1 ha with h | h
      · exact i1 a h
      · exact i2 a h

theorem ints_array {m : Nat} {e : TypeId} (hq : ∀ (cs : List Value) x fuel, DataW.trod enc P w base spare held fuel e cs = some x → ∃ l : List Int, cs = l.map (Value.int .i64) ∧ ∀ a ∈ l, I a) :
    ∀ (k : Nat) (cs : List Value), cs.length = k * m → (∀ i, i < k → ∃ x fuel, DataW.trod enc P w base spare held fuel e ((cs.drop (i * m)).take m) = some x) → ∃ l : List Int, cs = l.map (Value.int .i64) ∧ ∀ a ∈ l, I a
  | 0, cs, hl, _ => by
    have hz : cs = [] := List.eq_nil_of_length_eq_zero (by simpa using hl)
    subst hz; exact ⟨[], rfl, by simp⟩
  | k + 1, cs, hl, hx => by
    obtain ⟨x, fuel, h0⟩ := hx 0 (by omega)
    simp only [Nat.zero_mul, List.drop_zero] at h0
    obtain ⟨l1, e1, i1⟩ := hq _ _ _ h0
    obtain ⟨l2, e2, i2⟩ := ints_array (m := m) hq k (cs.drop m) (by rw [List.length_drop, hl, Nat.add_mul]; omega) (fun i hi => by
      obtain ⟨x, fuel, h⟩ := hx (i + 1) (by omega)
      refine ⟨x, fuel, ?_⟩
      rw [List.drop_drop, show m + i * m = (i + 1) * m from by rw [Nat.add_mul]; omega]; exact h)
    refine ⟨l1 ++ l2, ?_, fun a ha => ?_⟩
    · rw [List.map_append, ← e1, ← e2, List.take_append_drop]
    · rcases List.mem_append.1 ha with h | h
      · exact i1 a h
      · exact i2 a h

theorem ints_of : ∀ (d : Nat) {t : TypeId} {n : Nat}, IntT P d t n → ∀ (cs : List Value) x fuel, DataW.trod enc P w base spare held fuel t cs = some x → ∃ l : List Int, cs = l.map (Value.int .i64) ∧ ∀ a ∈ l, I a
  | 0, t, n, h, cs, x, fuel, hx => by
    obtain ⟨a, rfl, _, hw⟩ := DataW.trod_int h.1 hx
    exact ⟨[a], rfl, by simpa using I_of_wf hw⟩
  | d + 1, t, n, h, cs, x, fuel, hx => by
    obtain ⟨hc, h | ⟨fs, hu, hf⟩ | ⟨k, e, m, hu, he, hn⟩⟩ := h
    · obtain ⟨a, rfl, _, hw⟩ := DataW.trod_int h.1 hx
      exact ⟨[a], rfl, by simpa using I_of_wf hw⟩
    · obtain ⟨xs, f', rfl, _, hl, hlen, hel⟩ := DataW.trod_struct hu hx
      have := ints_fields (enc := enc) (w := w) (base := base) (spare := spare) (held := held) (Q := IntT P d) (fun t n h => ⟨h.cells, ints_of d h⟩) fs 0 n cs hf (by omega) (fun i f hi => by
        have h1 := hel i f (by simpa using hi)
        have hlt : i < xs.length := by
          rw [hlen]
          have : i < fs.length := by
            apply Classical.byContradiction; intro hn
            rw [List.getElem?_eq_none (by omega)] at hi; cases hi
          simpa using this
        rw [List.getElem?_eq_getElem hlt] at h1
        exact ⟨_, _, h1⟩)
      simpa using this
    · obtain ⟨xs, f', rfl, _, hl, hlen, hel⟩ := DataW.trod_array hu hx
      have hce := he.cells
      refine ints_array (m := m) (ints_of d he) k cs (by omega) (fun i hi => ?_)
      have h1 := hel i hi
      rw [hce, List.getElem?_eq_getElem (by omega)] at h1
      exact ⟨_, _, h1⟩

/-- AN ARGUMENT OF SUCH A TYPE, OPENED. -/
theorem open_of {d : Nat} {t : TypeId} {n : Nat} {v : Value} {x : DataW H} {p : List MemPlace} (hT : IntT P d t n) (hn : 2 ≤ n) (h : DataW.Trod enc P w base spare held t v x p) (hl : v.cells.size = n) :
    ∃ l : List Int, v = .agg (l.map (Value.int .i64)).toArray ∧ l.length = n ∧ ∀ a ∈ l, I a := by
  obtain ⟨fuel, hf⟩ := h
  obtain ⟨l, e, hi⟩ := ints_of d hT _ _ _ hf
  have hlen : l.length = n := by
    have := congrArg List.length e
    simp at this; omega
  refine ⟨l, ?_, hlen, hi⟩
  cases v
  case agg cs =>
    congr 1
    apply Array.ext'
    simpa [Value.cells] using e
  all_goals (simp [Value.cells] at hl; omega)

theorem size_of {d : Nat} {t : TypeId} {n : Nat} {v : Value} {x : DataW H} {p : List MemPlace} (hT : IntT P d t n) (h : DataW.Trod enc P w base spare held t v x p) : v.cells.size = n := by
  obtain ⟨fuel, hf⟩ := h
  have hl : v.cells.toList.length = n := by
    cases d with
    | zero =>
      obtain ⟨a, ha, _⟩ := DataW.trod_int hT.1 hf
      rw [ha, hT.2.2]; rfl
    | succ d =>
      obtain ⟨hc, hh | ⟨fs, hu, _⟩ | ⟨k, e, m, hu, _⟩⟩ := hT
      · obtain ⟨a, ha, _⟩ := DataW.trod_int hh.1 hf
        rw [ha, hh.2]; rfl
      · obtain ⟨xs, f', _, _, hl, _⟩ := DataW.trod_struct hu hf
        omega
      · obtain ⟨xs, f', _, _, hl, _⟩ := DataW.trod_array hu hf
        omega
  simpa using hl
end
end Go.Proofs.YtlfoglklibhbnaaGreat.Oi
