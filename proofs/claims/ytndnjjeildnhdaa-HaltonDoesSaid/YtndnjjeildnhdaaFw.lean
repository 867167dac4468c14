/- Wide products and fractions: plain numbers. -/
import Derived.Test.YtndnjjeildnhdaaMu
set_option linter.unusedVariables false
set_option linter.unusedSimpArgs false
namespace Go.Proofs.Ytndnjjeildnhdaa.Sx
open Go.RowKit

theorem minI (x y : Int) : (if decide (y < x) = true then y else x) = min x y := by simp only [decide_eq_true_eq]; omega
theorem maxI (x y : Int) : (if decide (x < y) = true then y else x) = max x y := by simp only [decide_eq_true_eq]; omega
structure Hv (x y x0 x1 y0 y1 h m l : Int) : Prop where
  hh : 0 ≤ h ∧ h ≤ 1000000000000000000
  hm : 0 ≤ m ∧ m ≤ 1999999998000000000
  hl : 0 ≤ l ∧ l ≤ 999999998000000001
  e : x * y = 1000000000000000000 * h + 1000000000 * m + l
theorem mul_nn {a b A B K : Int} (hK : A * B = K) (ha : 0 ≤ a ∧ a ≤ A) (hb : 0 ≤ b ∧ b ≤ B) : 0 ≤ a * b ∧ a * b ≤ K := by
  have := Int.mul_le_mul ha.2 hb.2 hb.1 (by omega)
  have := Int.mul_nonneg ha.1 hb.1
  omega
theorem halves {x y : Int} (hx : 0 ≤ x ∧ x ≤ 1000000000000000000) (hy : 0 ≤ y ∧ y ≤ 1000000000000000000) :
    (0 ≤ x / 1000000000 ∧ x / 1000000000 ≤ 1000000000) ∧ (0 ≤ x % 1000000000 ∧ x % 1000000000 ≤ 999999999) ∧ (0 ≤ y / 1000000000 ∧ y / 1000000000 ≤ 1000000000) ∧ (0 ≤ y % 1000000000 ∧ y % 1000000000 ≤ 999999999) ∧
    (0 ≤ x / 1000000000 * (y / 1000000000) ∧ x / 1000000000 * (y / 1000000000) ≤ 1000000000000000000) ∧
    (0 ≤ x / 1000000000 * (y % 1000000000) ∧ x / 1000000000 * (y % 1000000000) ≤ 999999999000000000) ∧ (0 ≤ x % 1000000000 * (y / 1000000000) ∧ x % 1000000000 * (y / 1000000000) ≤ 999999999000000000) ∧
    (0 ≤ x % 1000000000 * (y % 1000000000) ∧ x % 1000000000 * (y % 1000000000) ≤ 999999998000000001) ∧
    x * y = 1000000000000000000 * (x / 1000000000 * (y / 1000000000)) + 1000000000 * (x / 1000000000 * (y % 1000000000) + x % 1000000000 * (y / 1000000000)) + x % 1000000000 * (y % 1000000000) := by
  have a0 : 0 ≤ x / 1000000000 ∧ x / 1000000000 ≤ 1000000000 := by omega
  have a1 : 0 ≤ x % 1000000000 ∧ x % 1000000000 ≤ 999999999 := by omega
  have b0 : 0 ≤ y / 1000000000 ∧ y / 1000000000 ≤ 1000000000 := by omega
  have b1 : 0 ≤ y % 1000000000 ∧ y % 1000000000 ≤ 999999999 := by omega
  refine ⟨a0, a1, b0, b1, mul_nn (by decide) a0 b0, mul_nn (by decide) a0 b1, mul_nn (by decide) a1 b0, mul_nn (by decide) a1 b1, ?_⟩
  have ex : x = 1000000000 * (x / 1000000000) + x % 1000000000 := by omega
  have ey : y = 1000000000 * (y / 1000000000) + y % 1000000000 := by omega
  generalize x / 1000000000 = p at *
  generalize x % 1000000000 = q at *
  generalize y / 1000000000 = r at *
  generalize y % 1000000000 = s at *
  subst ex ey
  grind
theorem sgc_anti (x y : Int) : sgc y x = -sgc x y := by unfold sgc; (repeat' split) <;> omega
theorem sgc_bd (x y : Int) : -1 ≤ sgc x y ∧ sgc x y ≤ 1 := by unfold sgc; (repeat' split) <;> omega
theorem sgc_self (x : Int) : sgc x x = 0 := by unfold sgc; (repeat' split) <;> omega
theorem sgc_le {x y : Int} : sgc x y ≤ 0 ↔ x ≤ y := by unfold sgc; (repeat' split) <;> omega
theorem sgc_lt {x y : Int} : sgc x y < 0 ↔ x < y := by unfold sgc; (repeat' split) <;> omega
theorem sgc_eq {x y : Int} : sgc x y = 0 ↔ x = y := by unfold sgc; (repeat' split) <;> omega
theorem fr1_ok {n d : Int} (h : fr1 n d = true) : (1 ≤ d ∧ d ≤ 1000000000000000000) ∧ (-1000000000000000000 ≤ n ∧ n ≤ 1000000000000000000) := by
  simp [fr1] at h; omega
theorem fcmp_right {a b c d : Int} (h : fr1 a b = true) (k : fr1 c d = true) : fcmp [a, b, c, d] = sgc (a * d) (c * b) := by simp [fcmp, h, k]
theorem fcmp_anti (a b c d : Int) : fcmp [c, d, a, b] = -fcmp [a, b, c, d] := by
  unfold fcmp
  simp only [List.getD_cons_zero, List.getD_cons_succ]
  cases fr1 a b <;> cases fr1 c d <;> simp only [Bool.and_true, Bool.and_false, Bool.false_and, Bool.true_and, Bool.false_eq_true, if_true, if_false]
  · by_cases h : a = c
    · subst h; simp only [if_true]; exact sgc_anti _ _
    · rw [if_neg h, if_neg (fun k => h k.symm)]; exact sgc_anti _ _
  · decide
  · exact sgc_anti _ _
theorem fcmp_bd (a b c d : Int) : -1 ≤ fcmp [a, b, c, d] ∧ fcmp [a, b, c, d] ≤ 1 := by
  unfold fcmp
  (repeat' split) <;> first | exact sgc_bd _ _ | omega
theorem fcmp_self (a b : Int) : fcmp [a, b, a, b] = 0 := by
  unfold fcmp
  simp only [List.getD_cons_zero, List.getD_cons_succ]
  cases fr1 a b <;> simp [sgc_self]
/-- Less and less is less. -/
theorem fcmp_trans (a b c d e f : Int) : (fcmp [a, b, c, d] ≤ 0 → fcmp [c, d, e, f] ≤ 0 → fcmp [a, b, e, f] ≤ 0) ∧ (fcmp [a, b, c, d] < 0 → fcmp [c, d, e, f] ≤ 0 → fcmp [a, b, e, f] < 0) ∧ (fcmp [a, b, c, d] = 0 → fcmp [c, d, e, f] = 0 → fcmp [a, b, e, f] = 0) := by
  unfold fcmp
  simp only [List.getD_cons_zero, List.getD_cons_succ]
  cases h1 : fr1 a b <;> cases h2 : fr1 c d <;> cases h3 : fr1 e f <;> simp only [Bool.and_true, Bool.and_false, Bool.false_and, Bool.true_and, Bool.false_eq_true, if_true, if_false]
  · by_cases x : a = c
    · subst x
      by_cases y : a = e
      · subst y; simp only [if_true, sgc_le, sgc_lt, sgc_eq]; refine ⟨?_, ?_, ?_⟩ <;> omega
      · simp only [if_true, if_neg y, sgc_le, sgc_lt, sgc_eq]; refine ⟨?_, ?_, ?_⟩ <;> omega
    · by_cases y : c = e
      · subst y; simp only [if_true, if_neg x, sgc_le, sgc_lt, sgc_eq]; refine ⟨?_, ?_, ?_⟩ <;> omega
      · by_cases z : a = e
        · subst z; simp only [if_true, if_neg x, if_neg y, sgc_le, sgc_lt, sgc_eq]; refine ⟨?_, ?_, ?_⟩ <;> omega
        · simp only [if_neg x, if_neg y, if_neg z, sgc_le, sgc_lt, sgc_eq]; refine ⟨?_, ?_, ?_⟩ <;> omega
  · refine ⟨?_, ?_, ?_⟩ <;> omega
  · refine ⟨?_, ?_, ?_⟩ <;> omega
  · refine ⟨?_, ?_, ?_⟩ <;> omega
  · refine ⟨?_, ?_, ?_⟩ <;> omega
  · refine ⟨?_, ?_, ?_⟩ <;> omega
  · refine ⟨?_, ?_, ?_⟩ <;> omega
  · have p1 := (fr1_ok h1).1; have p2 := (fr1_ok h2).1; have p3 := (fr1_ok h3).1
    simp only [sgc_le, sgc_lt, sgc_eq]
    have e1 : d * (a * f) = a * d * f := by grind
    have e2 : d * (e * b) = e * d * b := by grind
    have e3 : c * b * f = c * f * b := by grind
    refine ⟨fun x y => ?_, fun x y => ?_, fun x y => ?_⟩
    · have u := Int.mul_le_mul_of_nonneg_right x (show 0 ≤ f by omega); have v := Int.mul_le_mul_of_nonneg_right y (show 0 ≤ b by omega)
      exact Int.le_of_mul_le_mul_left (a := d) (by omega) (by omega)
    · have u := Int.mul_lt_mul_of_pos_right x (show 0 < f by omega); have v := Int.mul_le_mul_of_nonneg_right y (show 0 ≤ b by omega)
      exact Int.lt_of_mul_lt_mul_left (a := d) (by omega) (by omega)
    · have u := congrArg (· * f) x; have v := congrArg (· * b) y
      exact Int.eq_of_mul_eq_mul_left (a := d) (by omega) (by omega)
end Go.Proofs.Ytndnjjeildnhdaa.Sx
