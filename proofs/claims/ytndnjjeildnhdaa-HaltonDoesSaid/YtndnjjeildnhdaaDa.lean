/- Chapter 23: the digits, gone through. -/
import Derived.Test.YtndnjjeildnhdaaKt
import Derived.Test.YtndnjjeildnhdaaC0
set_option linter.unusedVariables false
set_option linter.unusedSimpArgs false
namespace Go.Proofs.Ytndnjjeildnhdaa
open Go.RowKit Go.Shelf
attribute [local go_sem] Oper.semAt_some
namespace Mt
/-- What is left of a number behind k digits; how many it has. -/
def iN (b i : Int) : Nat → Int
  | 0 => i
  | k + 1 => iN b i k / b
def nd (b : Int) : Nat → Int → Nat
  | 0, _ => 0
  | n + 1, i => if i ≤ 0 then 0 else nd b n (i / b) + 1
theorem iN_succ' (b i : Int) : ∀ k, iN b i (k + 1) = iN b (i / b) k
  | 0 => rfl
  | k + 1 => by show iN b i (k + 1) / b = iN b (i / b) k / b; rw [iN_succ' b i k]
theorem iN_bd {b i : Int} (hb : 2 ≤ b) (h0 : 0 ≤ i) : ∀ k, 0 ≤ iN b i k ∧ iN b i k ≤ i
  | 0 => ⟨h0, Int.le_refl _⟩
  | k + 1 => by
    obtain ⟨h1, h2⟩ := iN_bd hb h0 k
    have h3 : 0 ≤ iN b i k / b := Int.ediv_nonneg h1 (by omega)
    have h4 : iN b i k / b ≤ iN b i k := Int.ediv_le_self _ h1
    exact ⟨h3, by show iN b i k / b ≤ i; omega⟩
/-- With room enough each digit ahead of the last one leaves something; behind it nothing is left. -/
theorem nd_ok {b : Int} (hb : 2 ≤ b) : ∀ (n : Nat) (i : Int), 0 ≤ i → i < 2 ^ n → iN b i (nd b n i) = 0 ∧ ∀ k, k < nd b n i → 0 < iN b i k
  | 0, i, h0, h => by
    have : i = 0 := by simp at h; omega
    subst this; exact ⟨rfl, fun k hk => absurd hk (by simp [nd])⟩
  | n + 1, i, h0, h => by
    by_cases hi : i ≤ 0
    · have : i = 0 := by omega
      subst this
      simp [nd, iN]
    · have hdiv : i / b ≤ i / 2 := by
        have : i / b * 2 ≤ i := by
          have h1 : i / b * 2 ≤ i / b * b := Int.mul_le_mul_of_nonneg_left hb (Int.ediv_nonneg h0 (by omega))
          have h2 : i / b * b ≤ i := Int.ediv_mul_le i (by omega)
          omega
        omega
      have hlt : i / b < 2 ^ n := by
        have : i / 2 < 2 ^ n := by rw [Int.pow_succ] at h; omega
        omega
      have hnn : 0 ≤ i / b := Int.ediv_nonneg h0 (by omega)
      obtain ⟨h1, h2⟩ := nd_ok hb n (i / b) hnn hlt
      have e : nd b (n + 1) i = nd b n (i / b) + 1 := by simp only [nd]; rw [if_neg hi]
      rw [e]
      refine ⟨by rw [iN_succ']; exact h1, fun k hk => ?_⟩
      cases k with
      | zero => show 0 < i; omega
      | succ k => rw [iN_succ']; exact h2 k (by omega)
end Mt
end Go.Proofs.Ytndnjjeildnhdaa
