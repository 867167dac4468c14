/- Roots: plain numbers. -/
import Derived.Test.YtlfoglklibhbnaaGreatWhPl
set_option linter.unusedVariables false
namespace Go.Proofs.YtlfoglklibhbnaaGreat
open Go.RowKit
namespace Wh

/-- r is the root of n. -/
def Root (n r : Int) : Prop := 0 ≤ r ∧ r * r ≤ n ∧ n < (r + 1) * (r + 1)

theorem root_exists : ∀ n : Nat, ∃ r : Int, Root n r := by
  intro n
  induction n with
  | zero => exact ⟨0, by decide, by decide, by decide⟩
  | succ n ih =>
    obtain ⟨r, h0, h1, h2⟩ := ih
    by_cases h : (r + 1) * (r + 1) ≤ ((n + 1 : Nat) : Int)
    · refine ⟨r + 1, by omega, h, ?_⟩
      have : (r + 1 + 1) * (r + 1 + 1) = (r + 1) * (r + 1) + 2 * (r + 1) + 1 := by
        rw [Int.mul_add, Int.add_mul]; omega
      omega
    · exact ⟨r, h0, by omega, by omega⟩

theorem sq_mono {a b : Int} (h0 : 0 ≤ a) (h : a ≤ b) : a * a ≤ b * b := Int.mul_le_mul h h h0 (by omega)

theorem root_unique {n r s : Int} (h : Root n r) (k : Root n s) : r = s := by
  obtain ⟨h0, h1, h2⟩ := h
  obtain ⟨k0, k1, k2⟩ := k
  apply Classical.byContradiction
  intro hne
  rcases Int.lt_or_gt_of_ne hne with hl | hl
  · have := sq_mono (a := r + 1) (b := s) (by omega) (by omega); omega
  · have := sq_mono (a := s + 1) (b := r) (by omega) (by omega); omega

theorem sq_bd {r : Int} (h0 : 0 ≤ r) (h : r ≤ 3037000499) : 0 ≤ r * r ∧ r * r ≤ 9223372030926249001 := by
  have h1 := sq_mono h0 h
  have h2 := Int.mul_nonneg h0 h0
  have h3 : (3037000499 : Int) * 3037000499 = 9223372030926249001 := by decide
  omega

/-- The root of a number from 0 on. -/
noncomputable def rt (n : Int) : Int := Classical.choose (root_exists n.toNat)
theorem rt_root {n : Int} (h : 0 ≤ n) : Root n (rt n) := by
  have t : Root (n.toNat : Int) (rt n) := Classical.choose_spec (root_exists n.toNat)
  rw [Int.toNat_of_nonneg h] at t; exact t
theorem rt_eq {n r : Int} (h : Root n r) : rt n = r := by
  have h0 : 0 ≤ n := by have := h.2.1; have := Int.mul_nonneg h.1 h.1; omega
  exact root_unique (rt_root h0) h
theorem rt_le {n : Int} (h : 0 ≤ n) (hn : n ≤ 9223372036854775807) : 0 ≤ rt n ∧ rt n ≤ 3037000499 := by
  obtain ⟨h0, h1, h2⟩ := rt_root h
  refine ⟨h0, ?_⟩
  apply Classical.byContradiction
  intro hc
  have h4 := sq_mono (a := 3037000500) (b := rt n) (by decide) (by omega)
  have h3 : (3037000500 : Int) * 3037000500 = 9223372037000250000 := by decide
  omega


/-- The root, reckoned bit by bit. -/
def sqStep (n : Int) : Nat → Int → Int
  | 0, r => r
  | i + 1, r => if (r + 2 ^ i) * (r + 2 ^ i) ≤ n then sqStep n i (r + 2 ^ i) else sqStep n i r
def sqC (n : Int) : Int := sqStep n 32 0
theorem sqStep_root (n : Int) : ∀ (i : Nat) (r : Int), 0 ≤ r → r * r ≤ n → n < (r + 2 ^ i) * (r + 2 ^ i) → Root n (sqStep n i r)
  | 0, r, h0, h1, h2 => ⟨h0, h1, by have e : r + 2 ^ 0 = r + 1 := rfl; rw [e] at h2; exact h2⟩
  | i + 1, r, h0, h1, h2 => by
    unfold sqStep
    have hp : (0 : Int) < 2 ^ i := Int.pow_pos (by decide)
    have e : (r + 2 ^ i) + 2 ^ i = r + 2 ^ (i + 1) := by rw [Int.pow_succ]; omega
    split
    · rename_i h
      exact sqStep_root n i _ (by omega) h (by rw [e]; exact h2)
    · rename_i h
      exact sqStep_root n i r h0 h1 (by omega)
theorem sqC_root {n : Int} (h : 0 ≤ n) (hn : n ≤ 9223372036854775807) : Root n (sqC n) :=
  sqStep_root n 32 0 (by decide) (by omega) (by have : ((0 : Int) + 2 ^ 32) * (0 + 2 ^ 32) = 18446744073709551616 := by decide
                                                omega)
theorem rt_sqC {n : Int} (h : 0 ≤ n) (hn : n ≤ 9223372036854775807) : rt n = sqC n := rt_eq (sqC_root h hn)
end Wh
end Go.Proofs.YtlfoglklibhbnaaGreat
