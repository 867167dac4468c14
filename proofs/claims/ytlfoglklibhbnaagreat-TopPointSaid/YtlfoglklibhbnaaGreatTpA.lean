/- Parts of the proof of TopPoint. No condition of their own. -/
import Derived.WalkKit
import Derived.WalkSpells
import Derived.Deep.QuietTactic
import Derived.BigQuiet
import Derived.RowKit3
import Derived.Lib.Hide
set_option linter.unusedVariables false
set_option linter.unusedSimpArgs false
namespace Go.Proofs.YtlfoglklibhbnaaGreat
open Go.RowKit
def Gr (a w : World) : Prop := Below a.heap.size a w
theorem Gr.refl (w : World) : Gr w w := Below.refl _ _
theorem Gr.trans {a b c : World} (h : Gr a b) (k : Gr b c) : Gr a c := Below.trans h (Below.mono k h.size)
theorem Gr.drew {a w : World} (h : Gr a w) : Gr a w.drew := Below.drew h
theorem Gr.dn {a w : World} (h : Gr a w) (n : Nat) : Gr a (w.drewN n) := Below.trans h ⟨rfl, rfl, rfl, Nat.le_refl _, fun _ _ => rfl⟩
theorem Gr.alloc {a w : World} (h : Gr a w) (o : Obj) : Gr a (w.alloc o) := Below.alloc h h.size o
theorem Gr.setCell {a w : World} (h : Gr a w) {p : Addr} (hp : a.heap.size ≤ p.block) (u : Value) : Gr a (w.setCell p u) := Below.setCell h hp u
theorem Gr.size {a w : World} (h : Gr a w) : a.heap.size ≤ w.heap.size := Below.size h
theorem Gr.cell {a w : World} (h : Gr a w) {p : Addr} (hp : p.block < a.heap.size) : w.cell? p = a.cell? p := Below.cell h hp
theorem Gr.frozen {a w : World} (h : Gr a w) {p : Addr} (hp : p.block < a.heap.size) : w.frozen? p = a.frozen? p := Below.frozen h hp
theorem retb {a a' : Bool} (h1 : a = a') : Ending.returned (.bool a) = .returned (.bool a') := by rw [h1]
def I (a : Int) : Prop := -9223372036854775808 ≤ a ∧ a ≤ 9223372036854775807
theorem I_of_wf {a : Int} (h : (Lit.int .i64 a).wf = true) : I a := by
 simp only [Lit.wf, IntKind.min, IntKind.max, IntKind.signed, IntKind.bits, Bool.and_eq_true, decide_eq_true_eq, if_true] at h
 exact ⟨by have := h.1; omega, by have := h.2; omega⟩
theorem wf_of_I {a : Int} (h : I a) : (Lit.int .i64 a).wf = true := WalkArith.wf_i64 h
def IsRow (k : IntKind) (w : World) (a : Option Addr) (len : Nat) (zs : List Int) : Prop :=
 zs.length = len ∧ len ≤ 9223372036854775807 ∧ (∀ n ∈ zs, (Lit.int k n).wf = true) ∧
 (0 < len → ∃ b off, a = some ⟨b, off, none⟩ ∧ ∀ i, i < len → w.cell? ⟨b, off + i, none⟩ = some (.int k (zs.getD i 0)))
theorem add_none (b off i : Nat) : (⟨b, off, none⟩ : Addr).add i = ⟨b, off + i, none⟩ := by
 by_cases h : i = 0
 ·subst h; simp [Addr.add]
 ·simp [Addr.add, h]
theorem lt_of_cell {w : World} {p : Addr} {v : Value} (h : w.cell? p = some v) : p.block < w.heap.size := by
 apply Classical.byContradiction; intro hn
 unfold World.cell? at h
 rw [Array.getElem?_eq_none (by omega)] at h
 simp at h
theorem IsRow.later {k : IntKind} {w w' : World} {a : Option Addr} {len : Nat} {zs : List Int} (h : IsRow k w a len zs) (hg : Gr w w') : IsRow k w' a len zs := by
 obtain ⟨h1, h2, h3, h4⟩ := h
 refine ⟨h1, h2, h3, fun h0 => ?_⟩
 obtain ⟨b, off, h5, h6⟩ := h4 h0
 exact ⟨b, off, h5, fun i hi => by rw [hg.cell (lt_of_cell (h6 i hi))]; exact h6 i hi⟩
theorem IsRow.nil (k : IntKind) (w : World) (a : Option Addr) : IsRow k w a 0 [] := ⟨rfl, by omega, by simp, fun h => absurd h (by omega)⟩
theorem row_owned {w : World} {base : Nat} {e : TypeId} {v : Value} {zs : List Int} (h : w.ownsRow base e 1 v zs.length (zs.map (Value.int .i64))) (hl : zs.length ≤ 9223372036854775807) (hw : ∀ n ∈ zs, (Lit.int .i64 n).wf = true) :
  ∃ a cap, v = .slice a zs.length cap ∧ IsRow .i64 w a zs.length zs := by
 obtain ⟨h1, h2⟩ := h
 rcases h2 with ⟨hv, h0⟩ | ⟨g, cap, cur, hv, hg, hh, hn, hc, hs, ht⟩
 ·have : zs = [] := List.eq_nil_of_length_eq_zero h0
  subst this
  exact ⟨none, 0, hv, IsRow.nil _ _ _⟩
 ·refine ⟨some ⟨g, 0, none⟩, cap, hv, rfl, hl, hw, fun _ => ⟨_, _, rfl, ?_⟩⟩
  intro i hi
  unfold World.cell?
  rw [show (⟨g, 0 + i, none⟩ : Addr).block = g from rfl, hh]
  simp only [Nat.mul_one] at ht
  have hi2 : (zs.map (Value.int .i64))[i]? = some (.int .i64 (zs.getD i 0)) := by simp [List.getD, List.getElem?_eq_getElem hi]
  rw [← ht, List.getElem?_take_of_lt hi] at hi2
  simpa using hi2
def Blk (w : World) (b : Nat) (vs : List Value) : Prop :=
 b < w.heap.size ∧ ∀ i v, vs[i]? = some v → w.cell? ⟨b, i, none⟩ = some v ∧ w.frozen? ⟨b, i, none⟩ = false
theorem Blk.new {w : World} {b : Nat} {vs : List Value} {T : TypeId} (hb : b = w.heap.size) : Blk (w.alloc (.cells vs.toArray T)) b vs := by
 subst hb
 refine ⟨by simp, fun i v hi => ⟨?_, World.frozen?_alloc_at _ _ _ _ (by simp)⟩⟩
 rw [World.cell?_alloc_at _ _ _ _ rfl]
 simpa using hi
theorem Blk.alloc {w : World} {b : Nat} {vs : List Value} {o : Obj} (h : Blk w b vs) : Blk (w.alloc o) b vs := by
 refine ⟨by simp; have := h.1; omega, fun i v hi => ?_⟩
 obtain ⟨h1, h2⟩ := h.2 i v hi
 exact ⟨by rw [World.cell?_alloc_past _ _ _ h.1]; exact h1, by rw [World.frozen?_alloc_past _ _ _ h.1]; exact h2⟩
theorem Blk.gr {w w' : World} {b : Nat} {vs : List Value} (h : Blk w b vs) (hg : Gr w w') : Blk w' b vs := by
 refine ⟨Nat.lt_of_lt_of_le h.1 hg.size, fun i v hi => ?_⟩
 obtain ⟨h1, h2⟩ := h.2 i v hi
 exact ⟨by rw [hg.cell h.1]; exact h1, by rw [hg.frozen h.1]; exact h2⟩
theorem Blk.cell {w : World} {b : Nat} {vs : List Value} (h : Blk w b vs) (i : Nat) {v : Value} (hi : vs[i]? = some v) : w.cell? ⟨b, i, none⟩ = some v := (h.2 i v hi).1
theorem Blk.free {w : World} {b : Nat} {vs : List Value} (h : Blk w b vs) (i : Nat) {v : Value} (hi : vs[i]? = some v) : w.frozen? ⟨b, i, none⟩ = false := (h.2 i v hi).2
theorem Blk.set {w : World} {b : Nat} {vs : List Value} (h : Blk w b vs) (i : Nat) {u v : Value} (hi : vs[i]? = some u) : Blk (w.setCell ⟨b, i, none⟩ v) b (vs.set i v) := by
 refine ⟨by have := h.1; simpa [World.setCell] using this, fun j x hj => ?_⟩
 by_cases e : i = j
 ·subst e
  have hl : i < vs.length := by
   apply Classical.byContradiction; intro hn
   rw [List.getElem?_eq_none (by omega)] at hi; simp at hi
  rw [List.getElem?_set_self hl] at hj
  simp at hj; subst hj
  exact ⟨World.cell?_setCell_same _ _ _ (h.cell i hi), (World.frozen?_setCell _ _ _ _).trans (h.free i hi)⟩
 ·rw [List.getElem?_set_ne e] at hj
  exact ⟨(World.cell?_setCell_other _ _ _ _ (by intro h; injection h with _ h2; exact e h2)).trans (h.cell j hj), (World.frozen?_setCell _ _ _ _).trans (h.free j hj)⟩
structure P3 where
 x : Int
 y : Int
 z : Int
structure P2 where
 x : Int
 y : Int
def IsP3s (w : World) (a : Option Addr) (len : Nat) (ps : List P3) : Prop :=
 ps.length = len ∧ len ≤ 9223372036854775807 ∧ (0 < len → ∃ b off, a = some ⟨b, off, none⟩ ∧ b < w.heap.size ∧
  ∀ i p, ps[i]? = some p → w.cell? ⟨b, off + i * 3, none⟩ = some (.int .i64 p.x) ∧ w.cell? ⟨b, off + i * 3 + 1, none⟩ = some (.int .i64 p.y) ∧ w.cell? ⟨b, off + i * 3 + 2, none⟩ = some (.int .i64 p.z))
def IsP2s (w : World) (a : Option Addr) (len : Nat) (ps : List P2) : Prop :=
 ps.length = len ∧ len ≤ 9223372036854775807 ∧ (0 < len → ∃ b off, a = some ⟨b, off, none⟩ ∧ b < w.heap.size ∧
  ∀ i p, ps[i]? = some p → w.cell? ⟨b, off + i * 2, none⟩ = some (.int .i64 p.x) ∧ w.cell? ⟨b, off + i * 2 + 1, none⟩ = some (.int .i64 p.y))
theorem IsP3s.of_blk2 {w : World} {b : Nat} {x y z x' y' z' : Int} (h : Blk w b [.int .i64 x, .int .i64 y, .int .i64 z, .int .i64 x', .int .i64 y', .int .i64 z']) : IsP3s w (some ⟨b, 0, none⟩) 2 [⟨x, y, z⟩, ⟨x', y', z'⟩] := by
 refine ⟨rfl, by omega, fun _ => ⟨_, _, rfl, h.1, fun i p hi => ?_⟩⟩
 match i, hi with
 | 0, hi => simp at hi; subst hi; exact ⟨h.cell 0 rfl, h.cell 1 rfl, h.cell 2 rfl⟩
 | 1, hi => simp at hi; subst hi; exact ⟨h.cell 3 rfl, h.cell 4 rfl, h.cell 5 rfl⟩
 | i + 2, hi => simp at hi
theorem IsRow.of_blk2 {w : World} {b : Nat} {x y : Int} (h : Blk w b [.int .i64 x, .int .i64 y]) (hx : I x) (hy : I y) : IsRow .i64 w (some ⟨b, 0, none⟩) 2 [x, y] := by
 refine ⟨rfl, by omega, by simp [wf_of_I hx, wf_of_I hy], fun _ => ⟨_, _, rfl, fun i hi => ?_⟩⟩
 match i, hi with
 | 0, _ => exact h.cell 0 rfl
 | 1, _ => exact h.cell 1 rfl
theorem IsRow.of_blk3 {w : World} {b : Nat} {x y z : Int} (h : Blk w b [.int .i64 x, .int .i64 y, .int .i64 z]) (hx : I x) (hy : I y) (hz : I z) : IsRow .i64 w (some ⟨b, 0, none⟩) 3 [x, y, z] := by
 refine ⟨rfl, by omega, by simp [wf_of_I hx, wf_of_I hy, wf_of_I hz], fun _ => ⟨_, _, rfl, fun i hi => ?_⟩⟩
 match i, hi with
 | 0, _ => exact h.cell 0 rfl
 | 1, _ => exact h.cell 1 rfl
 | 2, _ => exact h.cell 2 rfl
theorem mul_bd {x y M N : Int} (K : Int) (hK : M * N = K) (hx : -M ≤ x ∧ x ≤ M) (hy : -N ≤ y ∧ y ≤ N) : -K ≤ x * y ∧ x * y ≤ K := by
 have hM : 0 ≤ M := by omega
 have hN : 0 ≤ N := by omega
 have h1 : (x * y).natAbs = x.natAbs * y.natAbs := Int.natAbs_mul x y
 have h2 : x.natAbs ≤ M.natAbs := by omega
 have h3 : y.natAbs ≤ N.natAbs := by omega
 have h4 : x.natAbs * y.natAbs ≤ M.natAbs * N.natAbs := Nat.mul_le_mul h2 h3
 have h5 : (M * N).natAbs = M.natAbs * N.natAbs := Int.natAbs_mul M N
 rw [hK] at h5
 have h6 : 0 ≤ K := by rw [← hK]; exact Int.mul_nonneg hM hN
 omega
def GW (W : World) : Type := { w' : World // Gr W w' }
end Go.Proofs.YtlfoglklibhbnaaGreat
namespace Go.Proofs.YtlfoglklibhbnaaGreat
open Go.RowKit
instance GW.some (W : World) : Nonempty (GW W) := ⟨⟨W, Gr.refl W⟩⟩
end Go.Proofs.YtlfoglklibhbnaaGreat
