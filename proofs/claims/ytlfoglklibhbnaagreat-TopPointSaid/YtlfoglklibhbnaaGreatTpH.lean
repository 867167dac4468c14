/- Parts of the proof of TopPoint. No condition of their own. -/
import Derived.Test.YtlfoglklibhbnaaGreatTpB
import Derived.Test.YtlfoglklibhbnaaGreatTpG
import Derived.Test.YtlfoglklibhbnaaGreatTpA
import Derived.WalkKit
import Derived.WalkSpells
import Derived.Deep.QuietTactic
import Derived.BigQuiet
import Derived.Lib.Hide
set_option linter.unusedVariables false
set_option linter.unusedSimpArgs false
namespace Go.Proofs.YtlfoglklibhbnaaGreat
open Go.RowKit
namespace Ro
def fl (zs : List (List Int)) : List Value := zs.flatMap fun z => z.map (Value.int .i64)
theorem fl_cons (z : List Int) (zs : List (List Int)) : fl (z :: zs) = z.map (Value.int .i64) ++ fl zs := by simp [fl]
theorem fl_append (xs ys : List (List Int)) : fl (xs ++ ys) = fl xs ++ fl ys := by simp [fl]
theorem fl_one1 (z : List Int) : fl [z] = z.map (Value.int .i64) := by simp [fl]
theorem fl_len {m : Nat} : ∀ (zs : List (List Int)), (∀ z ∈ zs, z.length = m) → (fl zs).length = zs.length * m
 | [], _ => by simp [fl]
 | z :: zs, h => by
  have h1 := h z (by simp)
  have h2 := fl_len zs (fun y hy => h y (by simp [hy]))
  rw [fl_cons, List.length_append, h2, List.length_map, h1, List.length_cons, Nat.add_mul]; omega
theorem fl_get {m : Nat} : ∀ (zs : List (List Int)), (∀ z ∈ zs, z.length = m) → ∀ i j, i < zs.length → j < m → (fl zs)[i * m + j]? = some (.int .i64 ((zs.getD i []).getD j 0))
 | [], _, i, j, hi, _ => by simp at hi
 | z :: zs, h, i, j, hi, hj => by
  have h1 := h z (by simp)
  rw [fl_cons]
  cases i with
  | zero =>
   rw [Nat.zero_mul, Nat.zero_add, List.getElem?_append_left (by simp; omega)]
   simp [List.getD, List.getElem?_eq_getElem (show j < z.length by omega)]
  | succ i =>
   have e : (i + 1) * m + j = m + (i * m + j) := by rw [Nat.add_mul]; omega
   rw [e, List.getElem?_append_right (by simp; omega)]
   have := fl_get zs (fun y hy => h y (by simp [hy])) i j (by simpa using hi) hj
   rw [show m + (i * m + j) - (z.map (Value.int .i64)).length = i * m + j by simp; omega, this]
   rfl
theorem fl_one {zs : List (List Int)} : ∀ u ∈ fl zs, u.oneCell' = true := by
 intro u hu
 unfold fl at hu
 rw [List.mem_flatMap] at hu
 obtain ⟨z, _, hz⟩ := hu
 rw [List.mem_map] at hz
 obtain ⟨x, _, rfl⟩ := hz
 rfl
theorem fl_at {m : Nat} (hm : 0 < m) {zs : List (List Int)} (h : ∀ z ∈ zs, z.length = m) {j : Nat} {u : Value} (hj : (fl zs)[j]? = some u) : j / m < zs.length ∧ u = .int .i64 ((zs.getD (j / m) []).getD (j % m) 0) := by
 have hlt : j < zs.length * m := by
  have := (List.getElem?_eq_some_iff.1 hj).1
  rwa [fl_len zs h] at this
 have h1 : j / m < zs.length := (Nat.div_lt_iff_lt_mul hm).2 hlt
 have h2 := fl_get zs h (j / m) (j % m) h1 (Nat.mod_lt _ hm)
 rw [Nat.div_add_mod' j m, hj] at h2
 exact ⟨h1, Option.some.inj h2⟩
theorem rows_owned {m : Nat} {w : World} {base : Nat} {e : TypeId} {v : Value} {zs : List (List Int)} (h : w.ownsRow base e m v zs.length (fl zs)) (hl : zs.length ≤ 9223372036854775807) (hz : ∀ z ∈ zs, z.length = m ∧ ∀ x ∈ z, I x) :
  ∃ a cap, v = .slice a zs.length cap ∧ Oi.IsRows m w a zs.length zs ∧ zs.length ≤ cap ∧ (a = none → cap = 0) := by
 have h' := h
 obtain ⟨h1, h2⟩ := h
 rcases h2 with ⟨hv, h0⟩ | ⟨g, cap, cur, hv, hb, hh, hnc, hrest⟩
 ·have : zs = [] := List.eq_nil_of_length_eq_zero h0
  subst this
  exact ⟨none, 0, hv, Oi.IsRows.nil _ _ _, Nat.le_refl _, fun _ => rfl⟩
 ·refine ⟨some ⟨g, 0, none⟩, cap, hv, ⟨rfl, hl, hz, fun _ => ⟨_, _, rfl, fun i j hi hj => ?_⟩⟩, hnc, fun h => by cases h⟩
  have hc : ∀ j u, (fl zs)[j]? = some u → w.cell? ((⟨g, 0, none⟩ : Addr).add j) = some u := World.ownsRow.cells h' (by rw [hv]; rfl)
  have := hc (i * m + j) _ (fl_get zs (fun z hz' => (hz z hz').1) i j hi hj)
  rw [add_none] at this
  exact this
theorem rows_cells {m : Nat} {w : World} {a : Option Addr} {len : Nat} {zs : List (List Int)} (hm : 0 < m) (h : Oi.IsRows m w a len zs) : ∀ ad, a = some ad → ∀ j u, (fl zs)[j]? = some u → w.cell? (ad.add j) = some u := by
 intro ad ha j u hj
 obtain ⟨h1, h2, h3, h4⟩ := h
 obtain ⟨k1, k2⟩ := fl_at hm (fun z hz => (h3 z hz).1) hj
 rw [h1] at k1
 obtain ⟨b, off, e, hc⟩ := h4 (Nat.lt_of_le_of_lt (Nat.zero_le _) k1)
 rw [ha] at e
 obtain rfl := Option.some.inj e
 have := hc (j / m) (j % m) k1 (Nat.mod_lt _ hm)
 rw [Nat.div_add_mod' j m] at this
 rw [add_none, this, k2]
theorem rows_len {m : Nat} {w : World} {a : Option Addr} {len : Nat} {zs : List (List Int)} (h : Oi.IsRows m w a len zs) : (fl zs).length = len * m := by
 rw [fl_len zs (fun z hz => (h.2.2.1 z hz).1), h.1]
theorem rows_take {m : Nat} {w : World} {a : Option Addr} {len i : Nat} {zs : List (List Int)} (h : Oi.IsRows m w a len zs) (hi : i ≤ len) : Oi.IsRows m w a i (zs.take i) := by
 obtain ⟨h1, h2, h3, h4⟩ := h
 refine ⟨by rw [List.length_take]; omega, by omega, fun z hz => h3 z (List.mem_of_mem_take hz), fun hp => ?_⟩
 obtain ⟨b, off, e, hcell⟩ := h4 (by omega)
 refine ⟨b, off, e, fun k j hk hj => ?_⟩
 rw [hcell k j (by omega) hj]
 simp [List.getD, hk]
theorem rows_at {m : Nat} {w : World} {a : Option Addr} {len i : Nat} {zs : List (List Int)} (h : Oi.IsRows m w a len zs) (hi : i < len) : (zs.getD i []).length = m ∧ (∀ x ∈ zs.getD i [], I x) ∧ ∃ b off, a = some ⟨b, off, none⟩ ∧ b < w.heap.size ∨ m = 0 := by
 obtain ⟨h1, h2, h3, h4⟩ := h
 have hm := h3 (zs.getD i []) (by rw [List.getD_eq_getElem?_getD, List.getElem?_eq_getElem (by omega)]; exact List.getElem_mem _)
 refine ⟨hm.1, hm.2, ?_⟩
 obtain ⟨b, off, e, hc⟩ := h4 (by omega)
 by_cases h0 : m = 0
 ·exact ⟨0, 0, .inr h0⟩
 ·exact ⟨b, off, .inl ⟨e, lt_of_cell (hc i 0 hi (by omega))⟩⟩
theorem rows2_at {w : World} {a : Option Addr} {len i : Nat} {zs : List (List Int)} (h : Oi.IsRows 2 w a len zs) (hi : i < len) : ∃ b off x y, a = some ⟨b, off, none⟩ ∧ b < w.heap.size ∧ zs.getD i [] = [x, y] ∧ w.cell? ⟨b, off + i * 2, none⟩ = some (.int .i64 x) ∧ w.cell? ⟨b, off + i * 2 + 1, none⟩ = some (.int .i64 y) ∧ I x ∧ I y := by
 obtain ⟨h1, h2, h3, h4⟩ := h
 obtain ⟨b, off, e, hc⟩ := h4 (by omega)
 have hm := h3 (zs.getD i []) (by rw [List.getD_eq_getElem?_getD, List.getElem?_eq_getElem (by omega)]; exact List.getElem_mem _)
 have c0 := hc i 0 hi (by omega)
 have c1 := hc i 1 hi (by omega)
 generalize zs.getD i [] = z at hm c0 c1
 obtain ⟨x, l1, rfl, e1⟩ := Sx.cut1 hm.1
 obtain ⟨y, l2, rfl, e2⟩ := Sx.cut1 e1
 obtain rfl := Sx.cut0 e2
 exact ⟨b, off, x, y, e, lt_of_cell c0, rfl, c0, c1, hm.2 x (by simp), hm.2 y (by simp)⟩
end Ro
end Go.Proofs.YtlfoglklibhbnaaGreat
