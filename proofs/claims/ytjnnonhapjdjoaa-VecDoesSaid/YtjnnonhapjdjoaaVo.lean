/- Plain facts on the order of points and on the axis. -/
import Derived.Test.YtjnnonhapjdjoaaVg
import Derived.Test.YtjnnonhapjdjoaaVh
set_option linter.unusedVariables false
namespace Go.Proofs.Ytjnnonhapjdjoaa
open Go.RowKit
namespace Vc

theorem ls_iff {a1 a2 a3 b1 b2 b3 : Int} : ls ⟨a1, a2, a3⟩ ⟨b1, b2, b3⟩ = true ↔ a1 < b1 ∨ (a1 = b1 ∧ (a2 < b2 ∨ (a2 = b2 ∧ a3 < b3))) := by
  have cm0 : ∀ a b : Int, (cm a b = 0 ↔ a = b) ∧ (cm a b < 0 ↔ a < b) := by
    intro a b; unfold cm
    split
    · omega
    · split <;> omega
  unfold ls or3
  rw [decide_eq_true_iff]
  dsimp only
  split
  · rename_i h
    have e1 := (cm0 a1 b1).1.1 h
    split
    · rename_i h2
      have e2 := (cm0 a2 b2).1.1 h2
      rw [(cm0 a3 b3).2]; omega
    · rename_i h2
      have e2 : ¬ a2 = b2 := fun e => h2 ((cm0 a2 b2).1.2 e)
      rw [(cm0 a2 b2).2]; omega
  · rename_i h
    have e1 : ¬ a1 = b1 := fun e => h ((cm0 a1 b1).1.2 e)
    rw [(cm0 a1 b1).2]; omega

theorem ls_false {a1 a2 a3 b1 b2 b3 : Int} : ls ⟨a1, a2, a3⟩ ⟨b1, b2, b3⟩ = false ↔ ¬ (a1 < b1 ∨ (a1 = b1 ∧ (a2 < b2 ∨ (a2 = b2 ∧ a3 < b3)))) := by
  rw [← ls_iff, Bool.not_eq_true]

theorem lw_sq {x y : Int} (h : lw y < lw x) : x * x < y * y := by
  have hx : x * x = (x.natAbs : Int) * x.natAbs := by rw [← Int.natAbs_mul_self]; simp
  have hy : y * y = (y.natAbs : Int) * y.natAbs := by rw [← Int.natAbs_mul_self]; simp
  rw [hx, hy]
  have hl : x.natAbs < y.natAbs := by
    unfold lw at h; split at h <;> split at h <;> omega
  have := Nat.mul_lt_mul'' hl hl
  exact_mod_cast this
theorem lw_sq_le {x y : Int} (h : ¬ lw y < lw x) : y * y ≤ x * x := by
  have hx : x * x = (x.natAbs : Int) * x.natAbs := by rw [← Int.natAbs_mul_self]; simp
  have hy : y * y = (y.natAbs : Int) * y.natAbs := by rw [← Int.natAbs_mul_self]; simp
  rw [hx, hy]
  have hl : y.natAbs ≤ x.natAbs := by
    unfold lw at h; split at h <;> split at h <;> omega
  have := Nat.mul_le_mul hl hl
  exact_mod_cast this

/-- Which part is farthest from 0, by the squares. -/
theorem axn_sq (x y z : Int) : (axn x y z = 0 ∧ y * y ≤ x * x ∧ z * z ≤ x * x) ∨ (axn x y z = 1 ∧ x * x < y * y ∧ z * z ≤ y * y) ∨ (axn x y z = 2 ∧ x * x < z * z ∧ y * y < z * z) := by
  unfold axn
  by_cases h : lw y < lw x
  · have s := lw_sq h
    simp only [if_pos h]
    by_cases h2 : lw z < lw y
    · have s2 := lw_sq h2
      simp only [if_pos h2]; right; right; exact ⟨trivial, by omega, s2⟩
    · have s2 := lw_sq_le h2
      simp only [if_neg h2]; right; left; exact ⟨trivial, s, s2⟩
  · have s := lw_sq_le h
    simp only [if_neg h]
    by_cases h2 : lw z < lw x
    · have s2 := lw_sq h2
      simp only [if_pos h2]; right; right; exact ⟨trivial, s2, by omega⟩
    · have s2 := lw_sq_le h2
      simp only [if_neg h2]; left; exact ⟨trivial, s, s2⟩
end Vc
end Go.Proofs.Ytjnnonhapjdjoaa
