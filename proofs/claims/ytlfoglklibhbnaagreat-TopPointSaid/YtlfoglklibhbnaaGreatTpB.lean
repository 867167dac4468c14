/- Parts of the proof of TopPoint. No condition of their own. -/
import Derived.Test.YtlfoglklibhbnaaGreatTpA
import Derived.OpenShut
import Derived.ProofKit
set_option linter.unusedVariables false
set_option linter.unusedSimpArgs false
namespace Go.Proofs.YtlfoglklibhbnaaGreat.Oi
open Go.ChangeShapes Go.WideShapes Go.ChangeAt Go.RowKit
def fieldsT (Q : TypeId → Nat → Prop) : List Field → Nat → Nat → Prop
 | [], o, n => o = n
 | f :: fs, o, n => ∃ m, f.offset = o ∧ Q f.type m ∧ fieldsT Q fs (o + m) n
def IntT (P : Program) : Nat → TypeId → Nat → Prop
 | 0, t, n => P.underlying t = some (.int .i64) ∧ P.cellsOf t = 1 ∧ n = 1
 | d + 1, t, n => P.cellsOf t = n ∧ ((P.underlying t = some (.int .i64) ∧ n = 1) ∨
   (∃ fs : List Field, P.underlying t = some (.struct fs.toArray) ∧ fieldsT (IntT P d) fs 0 n) ∨ (∃ k e m, P.underlying t = some (.array k e) ∧ IntT P d e m ∧ n = k * m))
section
variable {H : Type} {enc : TypeId × Value → H} {P : Program} {w : World} {base : Nat} {spare : Nat → Bool} {held : Bool}
theorem IntT.cells : ∀ {d : Nat} {t : TypeId} {n : Nat}, IntT P d t n → P.cellsOf t = n
 | 0, t, n, h => by rw [h.2.1, h.2.2]
 | d + 1, t, n, h => h.1
theorem ints_fields {Q : TypeId → Nat → Prop} (hQ : ∀ t n, Q t n → P.cellsOf t = n ∧ ∀ (cs : List Value) x fuel, DataW.trod enc P w base spare held fuel t cs = some x → ∃ l : List Int, cs = l.map (Value.int .i64) ∧ ∀ a ∈ l, I a) :
  ∀ (fs : List Field) (o n : Nat) (cs : List Value), fieldsT Q fs o n → cs.length = n →
  (∀ (i : Nat) (f : Field), fs[i]? = some f → ∃ x fuel, DataW.trod enc P w base spare held fuel f.type ((cs.drop f.offset).take (P.cellsOf f.type)) = some x) → ∃ l : List Int, cs.drop o = l.map (Value.int .i64) ∧ ∀ a ∈ l, I a
 | [], o, n, cs, h, hl, hx => ⟨[], by rw [List.drop_eq_nil_of_le (by have : o = n := h; omega)]; rfl, by simp⟩
 | f :: fs, o, n, cs, h, hl, hx => by
  obtain ⟨m, h1, h2, h3⟩ := h
  obtain ⟨x, fuel, h4⟩ := hx 0 f rfl
  obtain ⟨hc, hq⟩ := hQ _ _ h2
  rw [h1, hc] at h4
  obtain ⟨l1, e1, i1⟩ := hq _ _ _ h4
  obtain ⟨l2, e2, i2⟩ := ints_fields hQ fs (o + m) n cs h3 hl (fun i g hg => hx (i + 1) g (by simpa using hg))
  refine ⟨l1 ++ l2, ?_, fun a ha => ?_⟩
  ·rw [List.map_append, ← e1, ← e2, ← List.drop_drop, List.take_append_drop]
  ·rcases List.mem_append.1 ha with h | h
   ·exact i1 a h
   ·exact i2 a h
theorem ints_array {m : Nat} {e : TypeId} (hq : ∀ (cs : List Value) x fuel, DataW.trod enc P w base spare held fuel e cs = some x → ∃ l : List Int, cs = l.map (Value.int .i64) ∧ ∀ a ∈ l, I a) :
  ∀ (k : Nat) (cs : List Value), cs.length = k * m → (∀ i, i < k → ∃ x fuel, DataW.trod enc P w base spare held fuel e ((cs.drop (i * m)).take m) = some x) → ∃ l : List Int, cs = l.map (Value.int .i64) ∧ ∀ a ∈ l, I a
 | 0, cs, hl, _ => by
  have hz : cs = [] := List.eq_nil_of_length_eq_zero (by simpa using hl)
  subst hz; exact ⟨[], rfl, by simp⟩
 | k + 1, cs, hl, hx => by
  obtain ⟨x, fuel, h0⟩ := hx 0 (by omega)
  simp only [Nat.zero_mul, List.drop_zero] at h0
  obtain ⟨l1, e1, i1⟩ := hq _ _ _ h0
  obtain ⟨l2, e2, i2⟩ := ints_array (m := m) hq k (cs.drop m) (by rw [List.length_drop, hl, Nat.add_mul]; omega) (fun i hi => by
   obtain ⟨x, fuel, h⟩ := hx (i + 1) (by omega)
   refine ⟨x, fuel, ?_⟩
   rw [List.drop_drop, show m + i * m = (i + 1) * m from by rw [Nat.add_mul]; omega]; exact h)
  refine ⟨l1 ++ l2, ?_, fun a ha => ?_⟩
  ·rw [List.map_append, ← e1, ← e2, List.take_append_drop]
  ·rcases List.mem_append.1 ha with h | h
   ·exact i1 a h
   ·exact i2 a h
theorem ints_of : ∀ (d : Nat) {t : TypeId} {n : Nat}, IntT P d t n → ∀ (cs : List Value) x fuel, DataW.trod enc P w base spare held fuel t cs = some x → ∃ l : List Int, cs = l.map (Value.int .i64) ∧ ∀ a ∈ l, I a
 | 0, t, n, h, cs, x, fuel, hx => by
  obtain ⟨a, rfl, _, hw⟩ := DataW.trod_int h.1 hx
  exact ⟨[a], rfl, by simpa using I_of_wf hw⟩
 | d + 1, t, n, h, cs, x, fuel, hx => by
  obtain ⟨hc, h | ⟨fs, hu, hf⟩ | ⟨k, e, m, hu, he, hn⟩⟩ := h
  ·obtain ⟨a, rfl, _, hw⟩ := DataW.trod_int h.1 hx
   exact ⟨[a], rfl, by simpa using I_of_wf hw⟩
  ·obtain ⟨xs, f', rfl, _, hl, hlen, hel⟩ := DataW.trod_struct hu hx
   have := ints_fields (enc := enc) (w := w) (base := base) (spare := spare) (held := held) (Q := IntT P d) (fun t n h => ⟨h.cells, ints_of d h⟩) fs 0 n cs hf (by omega) (fun i f hi => by
    have h1 := hel i f (by simpa using hi)
    have hlt : i < xs.length := by
     rw [hlen]
     have : i < fs.length := by
      apply Classical.byContradiction; intro hn
      rw [List.getElem?_eq_none (by omega)] at hi; cases hi
     simpa using this
    rw [List.getElem?_eq_getElem hlt] at h1
    exact ⟨_, _, h1⟩)
   simpa using this
  ·obtain ⟨xs, f', rfl, _, hl, hlen, hel⟩ := DataW.trod_array hu hx
   have hce := he.cells
   refine ints_array (m := m) (ints_of d he) k cs (by omega) (fun i hi => ?_)
   have h1 := hel i hi
   rw [hce, List.getElem?_eq_getElem (by omega)] at h1
   exact ⟨_, _, h1⟩
end
end Go.Proofs.YtlfoglklibhbnaaGreat.Oi
namespace Go.Proofs.YtlfoglklibhbnaaGreat.Oi
open Go.ChangeShapes Go.WideShapes Go.ChangeAt Go.RowKit
def IsRows (m : Nat) (w : World) (a : Option Addr) (len : Nat) (zs : List (List Int)) : Prop :=
 zs.length = len ∧ len ≤ 9223372036854775807 ∧ (∀ z ∈ zs, z.length = m ∧ ∀ x ∈ z, I x) ∧
 (0 < len → ∃ b off, a = some ⟨b, off, none⟩ ∧ ∀ i j, i < len → j < m → w.cell? ⟨b, off + (i * m + j), none⟩ = some (.int .i64 ((zs.getD i []).getD j 0)))
theorem IsRows.nil (m : Nat) (w : World) (a : Option Addr) : IsRows m w a 0 [] := ⟨rfl, by omega, by simp, fun h => absurd h (by omega)⟩
theorem IsRows.later {m : Nat} {w w' : World} {a : Option Addr} {len : Nat} {zs : List (List Int)} (h : IsRows m w a len zs) (hg : Gr w w') : IsRows m w' a len zs := by
 obtain ⟨h1, h2, h3, h4⟩ := h
 refine ⟨h1, h2, h3, fun hl => ?_⟩
 obtain ⟨b, off, e, hc⟩ := h4 hl
 exact ⟨b, off, e, fun i j hi hj => by rw [hg.cell (lt_of_cell (hc i j hi hj))]; exact hc i j hi hj⟩
section
variable {H : Type} {enc : TypeId × Value → H} {P : Program} {w : World} {base : Nat} {spare : Nat → Bool} {held : Bool}
theorem list_of {α : Type} {R : Nat → α → Prop} : ∀ (n : Nat), (∀ i, i < n → ∃ x, R i x) → ∃ l : List α, l.length = n ∧ ∀ i x, l[i]? = some x → R i x
 | 0, _ => ⟨[], rfl, fun i x h => by simp at h⟩
 | n + 1, h => by
  obtain ⟨l, hl, hr⟩ := list_of n (fun i hi => h i (by omega))
  obtain ⟨x, hx⟩ := h n (by omega)
  refine ⟨l ++ [x], by simp [hl], fun i y hy => ?_⟩
  by_cases hi : i < n
  ·rw [List.getElem?_append_left (by omega)] at hy; exact hr i y hy
  ·have hin : i = n := by
    have : i < (l ++ [x]).length := by
     apply Classical.byContradiction; intro hn
     rw [List.getElem?_eq_none (by omega)] at hy; cases hy
    simp [hl] at this; omega
   subst hin
   rw [List.getElem?_append_right (by omega), hl] at hy
   simp at hy; subst hy; exact hx
theorem open_rows {d : Nat} {t e : TypeId} {m fuel : Nat} {cs : List Value} {x : DataW H × List MemPlace} (ht : P.underlying t = some (.slice e)) (hT : IntT P d e m) (hm : 0 < m) (h : DataW.trod enc P w base spare held fuel t cs = some x) :
  cs = [.slice none 0 0] ∨ ∃ (a : Addr) (len cap : Nat) (zs : List (List Int)), cs = [.slice (some a) len cap] ∧ IsRows m w (some a) len zs := by
 rcases DataW.trod_slice ht h with h0 | ⟨a, len, cap, elems, rest, n, _, rfl, rfl, hb, hl, hmx, hlen, hel, hsp, hns⟩
 ·exact .inl h0.1
 right
 have hc := hT.cells
 have each : ∀ i, i < len → ∃ z : List Int, z.length = m ∧ (∀ x ∈ z, I x) ∧ ∀ j, j < m → w.cell? ((a.add (i * m)).add j) = some (.int .i64 (z.getD j 0)) := by
  intro i hi
  have h1 := hel i hi
  rw [hc, List.getElem?_eq_getElem (by omega)] at h1
  rw [Option.bind_eq_some_iff] at h1
  obtain ⟨cs', hcs, hy⟩ := h1
  obtain ⟨_, hlen', hcell⟩ := World.cells?_some hcs
  obtain ⟨z, hz, hI⟩ := ints_of d hT _ _ _ hy
  have hzl : z.length = m := by rw [← hlen', hz]; simp
  refine ⟨z, hzl, hI, fun j hj => ?_⟩
  rw [hcell j hj, hz, List.getElem?_map, List.getElem?_eq_getElem (by omega)]
  simp [List.getD, List.getElem?_eq_getElem (show j < z.length by omega)]
 obtain ⟨zs, hzl, hzs⟩ := list_of len each
 refine ⟨a, len, cap, zs, rfl, hzl, by unfold maxLen at hmx; omega, fun z hz => ?_, fun hpos => ?_⟩
 ·obtain ⟨i, hi⟩ := List.getElem?_of_mem hz
  exact ⟨(hzs i z hi).1, (hzs i z hi).2.1⟩
 ·have h0 := (hzs 0 (zs[0]'(by omega)) (List.getElem?_eq_getElem (by omega))).2.2 0 hm
  have hsp : a.spot = none := by simpa [Addr.add] using World.cell?_spot h0
  obtain ⟨b, off, sp⟩ := a
  simp only at hsp
  subst hsp
  refine ⟨b, off, rfl, fun i j hi hj => ?_⟩
  have h1 := (hzs i (zs[i]'(by omega)) (List.getElem?_eq_getElem (by omega))).2.2 j hj
  rw [add_none, add_none] at h1
  rw [← Nat.add_assoc, h1]
  simp [List.getD, List.getElem?_eq_getElem (show i < zs.length by omega)]
end
end Go.Proofs.YtlfoglklibhbnaaGreat.Oi
