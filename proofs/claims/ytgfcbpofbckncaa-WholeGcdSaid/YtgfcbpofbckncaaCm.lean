/- Common words: nothing of the program. -/
import Derived.WalkKit
import Derived.WalkSpells
import Derived.Deep.QuietTactic
import Derived.BigQuiet
import Derived.RowKit3
import Derived.Lib.Hide
set_option linter.unusedVariables false
namespace Go.Proofs.Ytgfcbpofbckncaa
open Go.RowKit

/-- The world behind a call that only reckons: it may have drawn. -/
def Drew (w w' : World) : Prop := ∃ n, w' = w.drewN n
theorem Drew.refl (w : World) : Drew w w := ⟨0, rfl⟩
theorem Drew.more {w w' : World} (h : Drew w w') (n : Nat) : Drew w (w'.drewN n) := by
  obtain ⟨m, rfl⟩ := h; exact ⟨m + n, World.drewN_drewN _ _ _⟩
theorem Drew.trans {a b c : World} (h : Drew a b) (k : Drew b c) : Drew a c := by
  obtain ⟨m, rfl⟩ := k; exact h.more m

/-- The world behind a call: of what was there nothing has turned. -/
def Gr (a w : World) : Prop := Below a.heap.size a w
theorem Gr.refl (w : World) : Gr w w := Below.refl _ _
theorem Gr.trans {a b c : World} (h : Gr a b) (k : Gr b c) : Gr a c := Below.trans h (Below.mono k h.size)
theorem Gr.drew {a w : World} (h : Gr a w) : Gr a w.drew := Below.drew h
theorem Gr.dn {a w : World} (h : Gr a w) (n : Nat) : Gr a (w.drewN n) := Below.trans h ⟨rfl, rfl, rfl, Nat.le_refl _, fun _ _ => rfl⟩
theorem Gr.alloc {a w : World} (h : Gr a w) (o : Obj) : Gr a (w.alloc o) := Below.alloc h h.size o
theorem Gr.setCell {a w : World} (h : Gr a w) {p : Addr} (hp : a.heap.size ≤ p.block) (u : Value) : Gr a (w.setCell p u) := Below.setCell h hp u
theorem Gr.size {a w : World} (h : Gr a w) : a.heap.size ≤ w.heap.size := Below.size h
theorem Gr.cell {a w : World} (h : Gr a w) {p : Addr} (hp : p.block < a.heap.size) : w.cell? p = a.cell? p := Below.cell h hp
theorem Gr.frozen {a w : World} (h : Gr a w) {p : Addr} (hp : p.block < a.heap.size) : w.frozen? p = a.frozen? p := Below.frozen h hp
theorem Gr.cells {a w : World} (h : Gr a w) : ∀ b o, b < a.heap.size → w.cell? ⟨b, o, none⟩ = a.cell? ⟨b, o, none⟩ := fun b o hb => h.cell (p := ⟨b, o, none⟩) hb
theorem Gr.frozens {a w : World} (h : Gr a w) : ∀ b o, b < a.heap.size → w.frozen? ⟨b, o, none⟩ = a.frozen? ⟨b, o, none⟩ := fun b o hb => h.frozen (p := ⟨b, o, none⟩) hb
theorem Drew.gr {w w' : World} (h : Drew w w') : Gr w w' := by obtain ⟨n, rfl⟩ := h; exact (Gr.refl w).dn n

theorem ret3 {a b c a' b' c' : Int} (h1 : a = a') (h2 : b = b') (h3 : c = c') : Ending.returned (.tuple #[.int .i64 a, .int .i64 b, .int .i64 c]) = .returned (.tuple #[.int .i64 a', .int .i64 b', .int .i64 c']) := by rw [h1, h2, h3]
theorem ret2 {a b a' b' : Int} (h1 : a = a') (h2 : b = b') : Ending.returned (.tuple #[.int .i64 a, .int .i64 b]) = .returned (.tuple #[.int .i64 a', .int .i64 b']) := by rw [h1, h2]
theorem ret1 {k : IntKind} {a a' : Int} (h1 : a = a') : Ending.returned (.int k a) = .returned (.int k a') := by rw [h1]
theorem retb {a a' : Bool} (h1 : a = a') : Ending.returned (.bool a) = .returned (.bool a') := by rw [h1]

/-- A number that an int holds. -/
def I (a : Int) : Prop := -9223372036854775808 ≤ a ∧ a ≤ 9223372036854775807
theorem I_of_wf {a : Int} (h : (Lit.int .i64 a).wf = true) : I a := by
  simp only [Lit.wf, IntKind.min, IntKind.max, IntKind.signed, IntKind.bits, Bool.and_eq_true, decide_eq_true_eq, if_true] at h
  exact ⟨by have := h.1; omega, by have := h.2; omega⟩
theorem wf_of_I {a : Int} (h : I a) : (Lit.int .i64 a).wf = true := WalkArith.wf_i64 h

/-- What the walk is told of a slice of integers: its elements are 'zs', a cell each. -/
def IsRow (k : IntKind) (w : World) (a : Option Addr) (len : Nat) (zs : List Int) : Prop :=
  zs.length = len ∧ len ≤ 9223372036854775807 ∧ (∀ n ∈ zs, (Lit.int k n).wf = true) ∧
  (0 < len → ∃ b off, a = some ⟨b, off, none⟩ ∧ ∀ i, i < len → w.cell? ⟨b, off + i, none⟩ = some (.int k (zs.getD i 0)))

theorem add_none (b off i : Nat) : (⟨b, off, none⟩ : Addr).add i = ⟨b, off + i, none⟩ := by
  by_cases h : i = 0
  · subst h; simp [Addr.add]
  · simp [Addr.add, h]

theorem lt_of_cell {w : World} {p : Addr} {v : Value} (h : w.cell? p = some v) : p.block < w.heap.size := by
  apply Classical.byContradiction; intro hn
  unfold World.cell? at h
  rw [Array.getElem?_eq_none (by omega)] at h
  simp at h

theorem IsRow.later {k : IntKind} {w w' : World} {a : Option Addr} {len : Nat} {zs : List Int} (h : IsRow k w a len zs) (hg : Gr w w') : IsRow k w' a len zs := by
  obtain ⟨h1, h2, h3, h4⟩ := h
  refine ⟨h1, h2, h3, fun h0 => ?_⟩
  obtain ⟨b, off, h5, h6⟩ := h4 h0
  exact ⟨b, off, h5, fun i hi => by rw [hg.cell (lt_of_cell (h6 i hi))]; exact h6 i hi⟩

theorem IsRow.nil (k : IntKind) (w : World) (a : Option Addr) : IsRow k w a 0 [] := ⟨rfl, by omega, by simp, fun h => absurd h (by omega)⟩

theorem IsRow.opened {k : IntKind} {w : World} {x : Addr} {len cap : Nat} {zs : List Int} (hl : len ≤ cap) (hm : cap ≤ maxLen) (hz : zs.length = cap)
    (hcell : ∀ i, i < zs.length → w.cell? (x.add i) = some (.int k (zs.getD i 0))) (hwz : ∀ n ∈ zs, (Lit.int k n).wf = true) : IsRow k w (some x) len (zs.take len) := by
  unfold maxLen at hm
  refine ⟨by rw [List.length_take]; omega, by omega, fun n hn => hwz n (List.mem_of_mem_take hn), fun h0 => ?_⟩
  obtain ⟨b, off, spot⟩ := x
  have hc := hcell 0 (by omega)
  have hspot : spot = none := by simpa [Addr.add] using World.cell?_spot hc
  subst hspot
  refine ⟨b, off, rfl, fun i hi => ?_⟩
  rw [← add_none, hcell i (by omega)]
  simp [List.getD, List.getElem?_take_of_lt hi]

/-- A row of integers that has just been laid. -/
theorem row_new (w : World) (l : List Int) (T : TypeId) (hl : l.length ≤ 9223372036854775807) (h : ∀ n ∈ l, (Lit.int .i64 n).wf = true) :
    IsRow .i64 (w.alloc (.cells (l.map (Value.int .i64)).toArray T)) (some ⟨w.heap.size, 0, none⟩) l.length l := by
  refine ⟨rfl, hl, h, fun _ => ⟨_, _, rfl, ?_⟩⟩
  intro i hi
  have : (w.alloc (.cells (l.map (Value.int .i64)).toArray T)).heap[w.heap.size]? = some (.cells (l.map (Value.int .i64)).toArray T) := (MapKept.heap_alloc w _).1
  unfold World.cell?
  rw [this]
  simp [List.getD, List.getElem?_eq_getElem hi]

/-- A row that the call itself owns. -/
theorem row_owned {w : World} {base : Nat} {e : TypeId} {v : Value} {zs : List Int} (h : w.ownsRow base e 1 v zs.length (zs.map (Value.int .i64))) (hl : zs.length ≤ 9223372036854775807) (hw : ∀ n ∈ zs, (Lit.int .i64 n).wf = true) :
    ∃ a cap, v = .slice a zs.length cap ∧ IsRow .i64 w a zs.length zs := by
  obtain ⟨h1, h2⟩ := h
  rcases h2 with ⟨hv, h0⟩ | ⟨g, cap, cur, hv, hg, hh, hn, hc, hs, ht⟩
  · have : zs = [] := List.eq_nil_of_length_eq_zero h0
    subst this
    exact ⟨none, 0, hv, IsRow.nil _ _ _⟩
  · refine ⟨some ⟨g, 0, none⟩, cap, hv, rfl, hl, hw, fun _ => ⟨_, _, rfl, ?_⟩⟩
    intro i hi
    unfold World.cell?
    rw [show (⟨g, 0 + i, none⟩ : Addr).block = g from rfl, hh]
    simp only [Nat.mul_one] at ht
    have hi2 : (zs.map (Value.int .i64))[i]? = some (.int .i64 (zs.getD i 0)) := by simp [List.getD, List.getElem?_eq_getElem hi]
    rw [← ht, List.getElem?_take_of_lt hi] at hi2
    simpa using hi2
end Go.Proofs.Ytgfcbpofbckncaa
