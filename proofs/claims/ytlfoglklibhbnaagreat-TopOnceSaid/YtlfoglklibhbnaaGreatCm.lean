/- Common words: nothing of the program. -/
import Derived.WalkKit
import Derived.WalkSpells
import Derived.Deep.QuietTactic
import Derived.BigQuiet
import Derived.RowKit3
import Derived.Lib.Hide
set_option linter.unusedVariables false
namespace Go.Proofs.YtlfoglklibhbnaaGreat
open Go.RowKit

/-- The world behind a call that only reckons: it may have drawn. -/
def Drew (w w' : World) : Prop := ∃ n, w' = w.drewN n
theorem Drew.refl (w : World) : Drew w w := ⟨0, rfl⟩
theorem Drew.more {w w' : World} (h : Drew w w') (n : Nat) : Drew w (w'.drewN n) := by
  obtain ⟨m, rfl⟩ := h; exact ⟨m + n, World.drewN_drewN _ _ _⟩
theorem Drew.trans {a b c : World} (h : Drew a b) (k : Drew b c) : Drew a c := by
  obtain ⟨m, rfl⟩ := k; exact h.more m

/-- The world behind a call: of what was there nothing has turned. -/
def Gr (a w : World) : Prop := Below a.heap.size a w
theorem Gr.refl (w : World) : Gr w w := Below.refl _ _
theorem Gr.trans {a b c : World} (h : Gr a b) (k : Gr b c) : Gr a c := Below.trans h (Below.mono k h.size)
theorem Gr.drew {a w : World} (h : Gr a w) : Gr a w.drew := Below.drew h
theorem Gr.dn {a w : World} (h : Gr a w) (n : Nat) : Gr a (w.drewN n) := Below.trans h ⟨rfl, rfl, rfl, Nat.le_refl _, fun _ _ => rfl⟩
theorem Gr.alloc {a w : World} (h : Gr a w) (o : Obj) : Gr a (w.alloc o) := Below.alloc h h.size o
theorem Gr.setCell {a w : World} (h : Gr a w) {p : Addr} (hp : a.heap.size ≤ p.block) (u : Value) : Gr a (w.setCell p u) := Below.setCell h hp u
theorem Gr.size {a w : World} (h : Gr a w) : a.heap.size ≤ w.heap.size := Below.size h
theorem Gr.cell {a w : World} (h : Gr a w) {p : Addr} (hp : p.block < a.heap.size) : w.cell? p = a.cell? p := Below.cell h hp
theorem Gr.frozen {a w : World} (h : Gr a w) {p : Addr} (hp : p.block < a.heap.size) : w.frozen? p = a.frozen? p := Below.frozen h hp
theorem Gr.cells {a w : World} (h : Gr a w) : ∀ b o, b < a.heap.size → w.cell? ⟨b, o, none⟩ = a.cell? ⟨b, o, none⟩ := fun b o hb => h.cell (p := ⟨b, o, none⟩) hb
theorem Gr.frozens {a w : World} (h : Gr a w) : ∀ b o, b < a.heap.size → w.frozen? ⟨b, o, none⟩ = a.frozen? ⟨b, o, none⟩ := fun b o hb => h.frozen (p := ⟨b, o, none⟩) hb
theorem Drew.gr {w w' : World} (h : Drew w w') : Gr w w' := by obtain ⟨n, rfl⟩ := h; exact (Gr.refl w).dn n

theorem ret3 {a b c a' b' c' : Int} (h1 : a = a') (h2 : b = b') (h3 : c = c') : Ending.returned (.tuple #[.int .i64 a, .int .i64 b, .int .i64 c]) = .returned (.tuple #[.int .i64 a', .int .i64 b', .int .i64 c']) := by rw [h1, h2, h3]
theorem ret2 {a b a' b' : Int} (h1 : a = a') (h2 : b = b') : Ending.returned (.tuple #[.int .i64 a, .int .i64 b]) = .returned (.tuple #[.int .i64 a', .int .i64 b']) := by rw [h1, h2]
theorem ret1 {k : IntKind} {a a' : Int} (h1 : a = a') : Ending.returned (.int k a) = .returned (.int k a') := by rw [h1]
theorem retb {a a' : Bool} (h1 : a = a') : Ending.returned (.bool a) = .returned (.bool a') := by rw [h1]

/-- A number that an int holds. -/
def I (a : Int) : Prop := -9223372036854775808 ≤ a ∧ a ≤ 9223372036854775807
theorem I_of_wf {a : Int} (h : (Lit.int .i64 a).wf = true) : I a := by
  simp only [Lit.wf, IntKind.min, IntKind.max, IntKind.signed, IntKind.bits, Bool.and_eq_true, decide_eq_true_eq, if_true] at h
  exact ⟨by have := h.1; omega, by have := h.2; omega⟩
theorem wf_of_I {a : Int} (h : I a) : (Lit.int .i64 a).wf = true := WalkArith.wf_i64 h

/-- What the walk is told of a slice of integers: its elements are 'zs', a cell each. -/
def IsRow (k : IntKind) (w : World) (a : Option Addr) (len : Nat) (zs : List Int) : Prop :=
  zs.length = len ∧ len ≤ 9223372036854775807 ∧ (∀ n ∈ zs, (Lit.int k n).wf = true) ∧
  (0 < len → ∃ b off, a = some ⟨b, off, none⟩ ∧ ∀ i, i < len → w.cell? ⟨b, off + i, none⟩ = some (.int k (zs.getD i 0)))

theorem add_none (b off i : Nat) : (⟨b, off, none⟩ : Addr).add i = ⟨b, off + i, none⟩ := by
  by_cases h : i = 0
  · subst h; simp [Addr.add]
  · simp [Addr.add, h]

theorem lt_of_cell {w : World} {p : Addr} {v : Value} (h : w.cell? p = some v) : p.block < w.heap.size := by
  apply Classical.byContradiction; intro hn
  unfold World.cell? at h
  rw [Array.getElem?_eq_none (by omega)] at h
  simp at h

theorem IsRow.later {k : IntKind} {w w' : World} {a : Option Addr} {len : Nat} {zs : List Int} (h : IsRow k w a len zs) (hg : Gr w w') : IsRow k w' a len zs := by
  obtain ⟨h1, h2, h3, h4⟩ := h
  refine ⟨h1, h2, h3, fun h0 => ?_⟩
  obtain ⟨b, off, h5, h6⟩ := h4 h0
  exact ⟨b, off, h5, fun i hi => by rw [hg.cell (lt_of_cell (h6 i hi))]; exact h6 i hi⟩

theorem IsRow.nil (k : IntKind) (w : World) (a : Option Addr) : IsRow k w a 0 [] := ⟨rfl, by omega, by simp, fun h => absurd h (by omega)⟩

theorem IsRow.opened {k : IntKind} {w : World} {x : Addr} {len cap : Nat} {zs : List Int} (hl : len ≤ cap) (hm : cap ≤ maxLen) (hz : zs.length = cap)
    (hcell : ∀ i, i < zs.length → w.cell? (x.add i) = some (.int k (zs.getD i 0))) (hwz : ∀ n ∈ zs, (Lit.int k n).wf = true) : IsRow k w (some x) len (zs.take len) := by
  unfold maxLen at hm
  refine ⟨by rw [List.length_take]; omega, by omega, fun n hn => hwz n (List.mem_of_mem_take hn), fun h0 => ?_⟩
  obtain ⟨b, off, spot⟩ := x
  have hc := hcell 0 (by omega)
  have hspot : spot = none := by simpa [Addr.add] using World.cell?_spot hc
  subst hspot
  refine ⟨b, off, rfl, fun i hi => ?_⟩
  rw [← add_none, hcell i (by omega)]
  simp [List.getD, List.getElem?_take_of_lt hi]

/-- A row of integers that has just been laid. -/
theorem row_new (w : World) (l : List Int) (T : TypeId) (hl : l.length ≤ 9223372036854775807) (h : ∀ n ∈ l, (Lit.int .i64 n).wf = true) :
    IsRow .i64 (w.alloc (.cells (l.map (Value.int .i64)).toArray T)) (some ⟨w.heap.size, 0, none⟩) l.length l := by
  refine ⟨rfl, hl, h, fun _ => ⟨_, _, rfl, ?_⟩⟩
  intro i hi
  have : (w.alloc (.cells (l.map (Value.int .i64)).toArray T)).heap[w.heap.size]? = some (.cells (l.map (Value.int .i64)).toArray T) := (MapKept.heap_alloc w _).1
  unfold World.cell?
  rw [this]
  simp [List.getD, List.getElem?_eq_getElem hi]

/-- A row that the call itself owns. -/
theorem row_owned {w : World} {base : Nat} {e : TypeId} {v : Value} {zs : List Int} (h : w.ownsRow base e 1 v zs.length (zs.map (Value.int .i64))) (hl : zs.length ≤ 9223372036854775807) (hw : ∀ n ∈ zs, (Lit.int .i64 n).wf = true) :
    ∃ a cap, v = .slice a zs.length cap ∧ IsRow .i64 w a zs.length zs := by
  obtain ⟨h1, h2⟩ := h
  rcases h2 with ⟨hv, h0⟩ | ⟨g, cap, cur, hv, hg, hh, hn, hc, hs, ht⟩
  · have : zs = [] := List.eq_nil_of_length_eq_zero h0
    subst this
    exact ⟨none, 0, hv, IsRow.nil _ _ _⟩
  · refine ⟨some ⟨g, 0, none⟩, cap, hv, rfl, hl, hw, fun _ => ⟨_, _, rfl, ?_⟩⟩
    intro i hi
    unfold World.cell?
    rw [show (⟨g, 0 + i, none⟩ : Addr).block = g from rfl, hh]
    simp only [Nat.mul_one] at ht
    have hi2 : (zs.map (Value.int .i64))[i]? = some (.int .i64 (zs.getD i 0)) := by simp [List.getD, List.getElem?_eq_getElem hi]
    rw [← ht, List.getElem?_take_of_lt hi] at hi2
    simpa using hi2

/-- Block b holds these values, and may be written. -/
def Blk (w : World) (b : Nat) (vs : List Value) : Prop :=
  b < w.heap.size ∧ ∀ i v, vs[i]? = some v → w.cell? ⟨b, i, none⟩ = some v ∧ w.frozen? ⟨b, i, none⟩ = false

theorem Blk.new {w : World} {b : Nat} {vs : List Value} {T : TypeId} (hb : b = w.heap.size) : Blk (w.alloc (.cells vs.toArray T)) b vs := by
  subst hb
  refine ⟨by simp, fun i v hi => ⟨?_, World.frozen?_alloc_at _ _ _ _ (by simp)⟩⟩
  rw [World.cell?_alloc_at _ _ _ _ rfl]
  simpa using hi

theorem Blk.alloc {w : World} {b : Nat} {vs : List Value} {o : Obj} (h : Blk w b vs) : Blk (w.alloc o) b vs := by
  refine ⟨by simp; have := h.1; omega, fun i v hi => ?_⟩
  obtain ⟨h1, h2⟩ := h.2 i v hi
  exact ⟨by rw [World.cell?_alloc_past _ _ _ h.1]; exact h1, by rw [World.frozen?_alloc_past _ _ _ h.1]; exact h2⟩

theorem Blk.gr {w w' : World} {b : Nat} {vs : List Value} (h : Blk w b vs) (hg : Gr w w') : Blk w' b vs := by
  refine ⟨Nat.lt_of_lt_of_le h.1 hg.size, fun i v hi => ?_⟩
  obtain ⟨h1, h2⟩ := h.2 i v hi
  exact ⟨by rw [hg.cell h.1]; exact h1, by rw [hg.frozen h.1]; exact h2⟩

theorem Blk.dn {w : World} {b : Nat} {vs : List Value} (h : Blk w b vs) (n : Nat) : Blk (w.drewN n) b vs := h
theorem Blk.drew {w : World} {b : Nat} {vs : List Value} (h : Blk w b vs) : Blk w.drew b vs := h
theorem Blk.lt {w : World} {b : Nat} {vs : List Value} (h : Blk w b vs) : b < w.heap.size := h.1
theorem Blk.cell {w : World} {b : Nat} {vs : List Value} (h : Blk w b vs) (i : Nat) {v : Value} (hi : vs[i]? = some v) : w.cell? ⟨b, i, none⟩ = some v := (h.2 i v hi).1
theorem Blk.free {w : World} {b : Nat} {vs : List Value} (h : Blk w b vs) (i : Nat) {v : Value} (hi : vs[i]? = some v) : w.frozen? ⟨b, i, none⟩ = false := (h.2 i v hi).2
theorem Blk.two {w : World} {b : Nat} {x y : Value} (h : Blk w b [x, y]) : b < w.heap.size ∧ w.cell? ⟨b, 0, none⟩ = some x ∧ w.cell? ⟨b, 1, none⟩ = some y := ⟨h.1, h.cell 0 rfl, h.cell 1 rfl⟩
theorem Blk.three {w : World} {b : Nat} {x y z : Value} (h : Blk w b [x, y, z]) : b < w.heap.size ∧ w.cell? ⟨b, 0, none⟩ = some x ∧ w.cell? ⟨b, 1, none⟩ = some y ∧ w.cell? ⟨b, 2, none⟩ = some z := ⟨h.1, h.cell 0 rfl, h.cell 1 rfl, h.cell 2 rfl⟩
theorem Blk.frees {w : World} {b : Nat} {x y z : Value} (h : Blk w b [x, y, z]) : w.frozen? ⟨b, 0, none⟩ = false ∧ w.frozen? ⟨b, 1, none⟩ = false ∧ w.frozen? ⟨b, 2, none⟩ = false := ⟨h.free 0 rfl, h.free 1 rfl, h.free 2 rfl⟩

theorem Blk.set {w : World} {b : Nat} {vs : List Value} (h : Blk w b vs) (i : Nat) {u v : Value} (hi : vs[i]? = some u) : Blk (w.setCell ⟨b, i, none⟩ v) b (vs.set i v) := by
  refine ⟨by have := h.1; simpa [World.setCell] using this, fun j x hj => ?_⟩
  by_cases e : i = j
  · subst e
    have hl : i < vs.length := by
      apply Classical.byContradiction; intro hn
      rw [List.getElem?_eq_none (by omega)] at hi; simp at hi
    rw [List.getElem?_set_self hl] at hj
    simp at hj; subst hj
    exact ⟨World.cell?_setCell_same _ _ _ (h.cell i hi), (World.frozen?_setCell _ _ _ _).trans (h.free i hi)⟩
  · rw [List.getElem?_set_ne e] at hj
    exact ⟨(World.cell?_setCell_other _ _ _ _ (by intro h; injection h with _ h2; exact e h2)).trans (h.cell j hj), (World.frozen?_setCell _ _ _ _).trans (h.free j hj)⟩
theorem Blk.set_other {w : World} {b : Nat} {vs : List Value} (h : Blk w b vs) {p : Addr} (hp : p.block ≠ b) (v : Value) : Blk (w.setCell p v) b vs := by
  refine ⟨by have := h.1; simpa [World.setCell] using this, fun j x hj => ?_⟩
  exact ⟨(World.cell?_setCell_other _ _ _ _ (by intro e; exact hp (by rw [e]))).trans (h.cell j hj), (World.frozen?_setCell _ _ _ _).trans (h.free j hj)⟩

theorem keep33 {w' : World} {p q : Nat} {a0 a1 a2 b0 b1 b2 : Value} (A : Blk w' p [a0, a1, a2]) (B : Blk w' q [b0, b1, b2]) :
    w'.cell? ⟨p, 0, none⟩ = some a0 ∧ w'.cell? ⟨p, 1, none⟩ = some a1 ∧ w'.cell? ⟨p, 2, none⟩ = some a2 ∧ w'.cell? ⟨q, 0, none⟩ = some b0 ∧ w'.cell? ⟨q, 1, none⟩ = some b1 ∧ w'.cell? ⟨q, 2, none⟩ = some b2 :=
  ⟨A.cell 0 rfl, A.cell 1 rfl, A.cell 2 rfl, B.cell 0 rfl, B.cell 1 rfl, B.cell 2 rfl⟩

/-- A point in space, in a plane. -/
structure P3 where
  x : Int
  y : Int
  z : Int
structure P2 where
  x : Int
  y : Int

/-- A row of points in space: three cells each. -/
def IsP3s (w : World) (a : Option Addr) (len : Nat) (ps : List P3) : Prop :=
  ps.length = len ∧ len ≤ 9223372036854775807 ∧ (0 < len → ∃ b off, a = some ⟨b, off, none⟩ ∧ b < w.heap.size ∧
    ∀ i p, ps[i]? = some p → w.cell? ⟨b, off + i * 3, none⟩ = some (.int .i64 p.x) ∧ w.cell? ⟨b, off + i * 3 + 1, none⟩ = some (.int .i64 p.y) ∧ w.cell? ⟨b, off + i * 3 + 2, none⟩ = some (.int .i64 p.z))
/-- A row of points in a plane: two cells each. -/
def IsP2s (w : World) (a : Option Addr) (len : Nat) (ps : List P2) : Prop :=
  ps.length = len ∧ len ≤ 9223372036854775807 ∧ (0 < len → ∃ b off, a = some ⟨b, off, none⟩ ∧ b < w.heap.size ∧
    ∀ i p, ps[i]? = some p → w.cell? ⟨b, off + i * 2, none⟩ = some (.int .i64 p.x) ∧ w.cell? ⟨b, off + i * 2 + 1, none⟩ = some (.int .i64 p.y))

theorem IsP3s.later {w w' : World} {a : Option Addr} {len : Nat} {ps : List P3} (h : IsP3s w a len ps) (hg : Gr w w') : IsP3s w' a len ps := by
  obtain ⟨h1, h2, h3⟩ := h
  refine ⟨h1, h2, fun h0 => ?_⟩
  obtain ⟨b, off, e, hb, hc⟩ := h3 h0
  refine ⟨b, off, e, Nat.lt_of_lt_of_le hb hg.size, fun i p hi => ?_⟩
  obtain ⟨c0, c1, c2⟩ := hc i p hi
  exact ⟨by rw [hg.cell hb]; exact c0, by rw [hg.cell hb]; exact c1, by rw [hg.cell hb]; exact c2⟩
theorem IsP2s.later {w w' : World} {a : Option Addr} {len : Nat} {ps : List P2} (h : IsP2s w a len ps) (hg : Gr w w') : IsP2s w' a len ps := by
  obtain ⟨h1, h2, h3⟩ := h
  refine ⟨h1, h2, fun h0 => ?_⟩
  obtain ⟨b, off, e, hb, hc⟩ := h3 h0
  refine ⟨b, off, e, Nat.lt_of_lt_of_le hb hg.size, fun i p hi => ?_⟩
  obtain ⟨c0, c1⟩ := hc i p hi
  exact ⟨by rw [hg.cell hb]; exact c0, by rw [hg.cell hb]; exact c1⟩

theorem IsP3s.nil (w : World) (a : Option Addr) : IsP3s w a 0 [] := ⟨rfl, by omega, fun h => absurd h (by omega)⟩
theorem IsP2s.nil (w : World) (a : Option Addr) : IsP2s w a 0 [] := ⟨rfl, by omega, fun h => absurd h (by omega)⟩

theorem IsP3s.of_blk1 {w : World} {b : Nat} {x y z : Int} (h : Blk w b [.int .i64 x, .int .i64 y, .int .i64 z]) : IsP3s w (some ⟨b, 0, none⟩) 1 [⟨x, y, z⟩] := by
  refine ⟨rfl, by omega, fun _ => ⟨_, _, rfl, h.1, fun i p hi => ?_⟩⟩
  match i, hi with
  | 0, hi => simp at hi; subst hi; exact ⟨h.cell 0 rfl, h.cell 1 rfl, h.cell 2 rfl⟩
  | i + 1, hi => simp at hi
theorem IsP3s.of_blk2 {w : World} {b : Nat} {x y z x' y' z' : Int} (h : Blk w b [.int .i64 x, .int .i64 y, .int .i64 z, .int .i64 x', .int .i64 y', .int .i64 z']) : IsP3s w (some ⟨b, 0, none⟩) 2 [⟨x, y, z⟩, ⟨x', y', z'⟩] := by
  refine ⟨rfl, by omega, fun _ => ⟨_, _, rfl, h.1, fun i p hi => ?_⟩⟩
  match i, hi with
  | 0, hi => simp at hi; subst hi; exact ⟨h.cell 0 rfl, h.cell 1 rfl, h.cell 2 rfl⟩
  | 1, hi => simp at hi; subst hi; exact ⟨h.cell 3 rfl, h.cell 4 rfl, h.cell 5 rfl⟩
  | i + 2, hi => simp at hi
theorem IsP2s.of_blk1 {w : World} {b : Nat} {x y : Int} (h : Blk w b [.int .i64 x, .int .i64 y]) : IsP2s w (some ⟨b, 0, none⟩) 1 [⟨x, y⟩] := by
  refine ⟨rfl, by omega, fun _ => ⟨_, _, rfl, h.1, fun i p hi => ?_⟩⟩
  match i, hi with
  | 0, hi => simp at hi; subst hi; exact ⟨h.cell 0 rfl, h.cell 1 rfl⟩
  | i + 1, hi => simp at hi
theorem IsP2s.of_blk2 {w : World} {b : Nat} {x y x' y' : Int} (h : Blk w b [.int .i64 x, .int .i64 y, .int .i64 x', .int .i64 y']) : IsP2s w (some ⟨b, 0, none⟩) 2 [⟨x, y⟩, ⟨x', y'⟩] := by
  refine ⟨rfl, by omega, fun _ => ⟨_, _, rfl, h.1, fun i p hi => ?_⟩⟩
  match i, hi with
  | 0, hi => simp at hi; subst hi; exact ⟨h.cell 0 rfl, h.cell 1 rfl⟩
  | 1, hi => simp at hi; subst hi; exact ⟨h.cell 2 rfl, h.cell 3 rfl⟩
  | i + 2, hi => simp at hi
theorem IsRow.of_blk2 {w : World} {b : Nat} {x y : Int} (h : Blk w b [.int .i64 x, .int .i64 y]) (hx : I x) (hy : I y) : IsRow .i64 w (some ⟨b, 0, none⟩) 2 [x, y] := by
  refine ⟨rfl, by omega, by simp [wf_of_I hx, wf_of_I hy], fun _ => ⟨_, _, rfl, fun i hi => ?_⟩⟩
  match i, hi with
  | 0, _ => exact h.cell 0 rfl
  | 1, _ => exact h.cell 1 rfl
theorem IsRow.of_blk3 {w : World} {b : Nat} {x y z : Int} (h : Blk w b [.int .i64 x, .int .i64 y, .int .i64 z]) (hx : I x) (hy : I y) (hz : I z) : IsRow .i64 w (some ⟨b, 0, none⟩) 3 [x, y, z] := by
  refine ⟨rfl, by omega, by simp [wf_of_I hx, wf_of_I hy, wf_of_I hz], fun _ => ⟨_, _, rfl, fun i hi => ?_⟩⟩
  match i, hi with
  | 0, _ => exact h.cell 0 rfl
  | 1, _ => exact h.cell 1 rfl
  | 2, _ => exact h.cell 2 rfl

theorem mul_bd {x y M N : Int} (K : Int) (hK : M * N = K) (hx : -M ≤ x ∧ x ≤ M) (hy : -N ≤ y ∧ y ≤ N) : -K ≤ x * y ∧ x * y ≤ K := by
  have hM : 0 ≤ M := by omega
  have hN : 0 ≤ N := by omega
  have h1 : (x * y).natAbs = x.natAbs * y.natAbs := Int.natAbs_mul x y
  have h2 : x.natAbs ≤ M.natAbs := by omega
  have h3 : y.natAbs ≤ N.natAbs := by omega
  have h4 : x.natAbs * y.natAbs ≤ M.natAbs * N.natAbs := Nat.mul_le_mul h2 h3
  have h5 : (M * N).natAbs = M.natAbs * N.natAbs := Int.natAbs_mul M N
  rw [hK] at h5
  have h6 : 0 ≤ K := by rw [← hK]; exact Int.mul_nonneg hM hN
  omega

theorem Blk.set3 {w : World} {b : Nat} {x y z : Value} (h : Blk w b [x, y, z]) (x' y' z' : Value) :
    Blk (((w.setCell ⟨b, 0, none⟩ x').setCell ⟨b, 1, none⟩ y').setCell ⟨b, 2, none⟩ z') b [x', y', z'] := ((h.set 0 (v := x') rfl).set 1 (v := y') rfl).set 2 (v := z') rfl
theorem Blk.set2 {w : World} {b : Nat} {x y : Value} (h : Blk w b [x, y]) (x' y' : Value) :
    Blk ((w.setCell ⟨b, 0, none⟩ x').setCell ⟨b, 1, none⟩ y') b [x', y'] := (h.set 0 (v := x') rfl).set 1 (v := y') rfl

/-- A world in which of W nothing has turned. -/
def GW (W : World) : Type := { w' : World // Gr W w' }
theorem GW.gr {W : World} (x : GW W) : Gr W x.val := x.property
/-- The class of such worlds, for a region that draws its order, reads, and calls what makes memory. -/
def CW (W : World) (w' : World) : Prop := ∃ x : GW W, w' = x.val
theorem CW.of {W w' : World} (h : Gr W w') : CW W w' := ⟨⟨w', h⟩, rfl⟩
theorem Calls.cw {P : Program} {f : FuncId} {args : Array Value} {W : World} {x : GW W} {v : Value}
    (h : Calls P f args x.val fun e w' => e = .returned v ∧ Gr x.val w') : Calls P f args x.val fun e w'' => e = .returned v ∧ ∃ y : GW W, w'' = y.val :=
  h.mono fun _ w' ⟨he, hg⟩ => ⟨he, ⟨⟨w', x.gr.trans hg⟩, rfl⟩⟩
theorem Blk.gw {W : World} {b : Nat} {vs : List Value} (h : Blk W b vs) (i : Nat) {v : Value} (hi : vs[i]? = some v) : ∀ x : GW W, x.val.cell? ⟨b, i, none⟩ = some v := fun x => (h.gr x.gr).cell i hi
end Go.Proofs.YtlfoglklibhbnaaGreat
