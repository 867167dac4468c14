/- Parameters that are rows of structs or arrays of numbers: what came in. -/
import Derived.Test.YtlfoglklibhbnaaGreatOi
set_option linter.unusedVariables false
namespace Go.Proofs.YtlfoglklibhbnaaGreat.Oi
open Go.ChangeShapes Go.WideShapes Go.ChangeAt Go.RowKit

/-- A row of elements of m ints each. -/
def IsRows (m : Nat) (w : World) (a : Option Addr) (len : Nat) (zs : List (List Int)) : Prop :=
  zs.length = len ∧ len ≤ 9223372036854775807 ∧ (∀ z ∈ zs, z.length = m ∧ ∀ x ∈ z, I x) ∧
  (0 < len → ∃ b off, a = some ⟨b, off, none⟩ ∧ ∀ i j, i < len → j < m → w.cell? ⟨b, off + (i * m + j), none⟩ = some (.int .i64 ((zs.getD i []).getD j 0)))
theorem IsRows.nil (m : Nat) (w : World) (a : Option Addr) : IsRows m w a 0 [] := ⟨rfl, by omega, by simp, fun h => absurd h (by omega)⟩
theorem IsRows.later {m : Nat} {w w' : World} {a : Option Addr} {len : Nat} {zs : List (List Int)} (h : IsRows m w a len zs) (hg : Gr w w') : IsRows m w' a len zs := by
  obtain ⟨h1, h2, h3, h4⟩ := h
  refine ⟨h1, h2, h3, fun hl => ?_⟩
  obtain ⟨b, off, e, hc⟩ := h4 hl
  exact ⟨b, off, e, fun i j hi hj => by rw [hg.cell (lt_of_cell (hc i j hi hj))]; exact hc i j hi hj⟩

section
variable {H : Type} {enc : TypeId × Value → H} {P : Program} {w : World} {base : Nat} {spare : Nat → Bool} {held : Bool}
theorem list_of {α : Type} {R : Nat → α → Prop} : ∀ (n : Nat), (∀ i, i < n → ∃ x, R i x) → ∃ l : List α, l.length = n ∧ ∀ i x, l[i]? = some x → R i x
  | 0, _ => ⟨[], rfl, fun i x h => by simp at h⟩
  | n + 1, h => by
    obtain ⟨l, hl, hr⟩ := list_of n (fun i hi => h i (by omega))
    obtain ⟨x, hx⟩ := h n (by omega)
    refine ⟨l ++ [x], by simp [hl], fun i y hy => ?_⟩
    by_cases hi : i < n
    · rw [List.getElem?_append_left (by omega)] at hy; exact hr i y hy
    · have hin : i = n := by
        have : i < (l ++ [x]).length := by
          apply Classical.byContradiction; intro hn
          rw [List.getElem?_eq_none (by omega)] at hy; cases hy
        simp [hl] at this; omega
      subst hin
      rw [List.getElem?_append_right (by omega), hl] at hy
      simp at hy; subst hy; exact hx
/-- A ROW OF SUCH ELEMENTS, OPENED. -/
theorem open_rows {d : Nat} {t e : TypeId} {m fuel : Nat} {cs : List Value} {x : DataW H × List MemPlace} (ht : P.underlying t = some (.slice e)) (hT : IntT P d e m) (hm : 0 < m) (h : DataW.trod enc P w base spare held fuel t cs = some x) :
    cs = [.slice none 0 0] ∨ ∃ (a : Addr) (len cap : Nat) (zs : List (List Int)), cs = [.slice (some a) len cap] ∧ IsRows m w (some a) len zs := by
  rcases DataW.trod_slice ht h with h0 | ⟨a, len, cap, elems, rest, n, _, rfl, rfl, hb, hl, hmx, hlen, hel, hsp, hns⟩
  · exact .inl h0.1
  right
  have hc := hT.cells
  have each : ∀ i, i < len → ∃ z : List Int, z.length = m ∧ (∀ x ∈ z, I x) ∧ ∀ j, j < m → w.cell? ((a.add (i * m)).add j) = some (.int .i64 (z.getD j 0)) := by
    intro i hi
    have h1 := hel i hi
    rw [hc, List.getElem?_eq_getElem (by omega)] at h1
    rw [Option.bind_eq_some_iff] at h1
    obtain ⟨cs', hcs, hy⟩ := h1
    obtain ⟨_, hlen', hcell⟩ := World.cells?_some hcs
    obtain ⟨z, hz, hI⟩ := ints_of d hT _ _ _ hy
    have hzl : z.length = m := by rw [← hlen', hz]; simp
    refine ⟨z, hzl, hI, fun j hj => ?_⟩
    rw [hcell j hj, hz, List.getElem?_map, List.getElem?_eq_getElem (by omega)]
    simp [List.getD, List.getElem?_eq_getElem (show j < z.length by omega)]
  obtain ⟨zs, hzl, hzs⟩ := list_of len each
  refine ⟨a, len, cap, zs, rfl, hzl, by unfold maxLen at hmx; omega, fun z hz => ?_, fun hpos => ?_⟩
  · obtain ⟨i, hi⟩ := List.getElem?_of_mem hz
    exact ⟨(hzs i z hi).1, (hzs i z hi).2.1⟩
  · have h0 := (hzs 0 (zs[0]'(by omega)) (List.getElem?_eq_getElem (by omega))).2.2 0 hm
    have hsp : a.spot = none := by simpa [Addr.add] using World.cell?_spot h0
    obtain ⟨b, off, sp⟩ := a
    simp only at hsp
    subst hsp
    refine ⟨b, off, rfl, fun i j hi hj => ?_⟩
    have h1 := (hzs i (zs[i]'(by omega)) (List.getElem?_eq_getElem (by omega))).2.2 j hj
    rw [add_none, add_none] at h1
    rw [← Nat.add_assoc, h1]
    simp [List.getD, List.getElem?_eq_getElem (show i < zs.length by omega)]
end
end Go.Proofs.YtlfoglklibhbnaaGreat.Oi
